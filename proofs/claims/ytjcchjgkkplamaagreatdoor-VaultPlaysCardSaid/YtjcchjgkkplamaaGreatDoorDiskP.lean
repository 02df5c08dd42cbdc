/- Layer 18 (disk): what a disk is, and what is done to it. Plain mathematics. -/
import Derived.Test.YtjcchjgkkplamaaGreatDoorLex
import Derived.Test.YtjcchjgkkplamaaGreatDoorCalc
set_option linter.unusedVariables false
namespace Go.Proofs.YtjcchjgkkplamaaGreatDoor
open Go.SW Go.RowKit Go.Sort
/-- A file. -/
structure Fil where
  name : List UInt8
  b : List UInt8
  sure : Nat
def getF (F : List Fil) (nm : List UInt8) : Option Fil := F.find? fun f => f.name == nm
def setF (F : List Fil) (f : Fil) : List Fil := F.filter (fun g => decide (g.name < f.name)) ++ f :: F.filter (fun g => decide (f.name < g.name))
def delF (F : List Fil) (nm : List UInt8) : List Fil := F.filter fun g => !(g.name == nm)
def Srt (F : List Fil) : Prop := F.Pairwise fun a b => a.name < b.name
theorem bl_irrefl (a : List UInt8) : ¬ a < a := List.lt_irrefl a
theorem bl_trans {a b c : List UInt8} (h : a < b) (k : b < c) : a < c := List.lt_trans h k
theorem bl_tri (a b : List UInt8) : a < b ∨ a = b ∨ b < a := by
  by_cases h : a < b
  · exact .inl h
  · by_cases h2 : b < a
    · exact .inr (.inr h2)
    · exact .inr (.inl (List.le_antisymm (List.not_lt.1 h2) (List.not_lt.1 h)))
theorem bl_ne {a b : List UInt8} (h : a < b) : a ≠ b := fun e => bl_irrefl b (e ▸ h)
theorem srt_set {F : List Fil} (h : Srt F) (f : Fil) : Srt (setF F f) := by
  unfold setF Srt
  rw [List.pairwise_append]
  refine ⟨h.filter _, List.pairwise_cons.2 ⟨fun g hg => of_decide_eq_true (List.mem_filter.1 hg).2, h.filter _⟩, fun a ha b hb => ?_⟩
  have h1 := of_decide_eq_true (List.mem_filter.1 ha).2
  rcases List.mem_cons.1 hb with rfl | hb
  · exact h1
  · exact bl_trans h1 (of_decide_eq_true (List.mem_filter.1 hb).2)
theorem srt_del {F : List Fil} (h : Srt F) (nm : List UInt8) : Srt (delF F nm) := h.filter _
theorem srt_nodup {F : List Fil} (h : Srt F) : (F.map (·.name)).Nodup := by
  unfold List.Nodup
  rw [List.pairwise_map]
  exact h.imp fun h => bl_ne h
theorem nodup_inj {α β : Type} {f : α → β} {l : List α} (h : (l.map f).Nodup) {a b : α} (ha : a ∈ l) (hb : b ∈ l) (e : f a = f b) : a = b := by
  induction l with
  | nil => simp at ha
  | cons x l ih =>
    rw [List.map_cons, List.nodup_cons] at h
    rcases List.mem_cons.1 ha with ha2 | ha2 <;> rcases List.mem_cons.1 hb with hb2 | hb2
    · rw [ha2, hb2]
    · exact absurd (List.mem_map.2 ⟨b, hb2, by rw [← e, ha2]⟩) h.1
    · exact absurd (List.mem_map.2 ⟨a, ha2, by rw [e, hb2]⟩) h.1
    · exact ih h.2 ha2 hb2
theorem getF_some {F : List Fil} (h : Srt F) {nm : List UInt8} {f : Fil} : getF F nm = some f ↔ f ∈ F ∧ f.name = nm := by
  constructor
  · intro hf
    exact ⟨List.mem_of_find?_eq_some hf, by simpa using List.find?_some hf⟩
  · rintro ⟨h1, rfl⟩
    unfold getF
    cases hf : F.find? (fun g => g.name == f.name) with
    | none => exact absurd (List.find?_eq_none.1 hf f h1) (by simp)
    | some g =>
      have h2 := List.mem_of_find?_eq_some hf
      have h3 : g.name = f.name := by simpa using List.find?_some hf
      rw [nodup_inj (srt_nodup h) h2 h1 h3]
theorem getF_none {F : List Fil} {nm : List UInt8} : getF F nm = none ↔ ∀ f ∈ F, f.name ≠ nm := by
  unfold getF; rw [List.find?_eq_none]; simp
theorem mem_set {F : List Fil} {f g : Fil} : g ∈ setF F f ↔ g = f ∨ g ∈ F ∧ g.name ≠ f.name := by
  unfold setF
  simp only [List.mem_append, List.mem_cons, List.mem_filter, decide_eq_true_eq]
  constructor
  · rintro (⟨h1, h2⟩ | rfl | ⟨h1, h2⟩)
    · exact .inr ⟨h1, bl_ne h2⟩
    · exact .inl rfl
    · exact .inr ⟨h1, (bl_ne h2).symm⟩
  · rintro (rfl | ⟨h1, h2⟩)
    · exact .inr (.inl rfl)
    · rcases bl_tri g.name f.name with h | h | h
      · exact .inl ⟨h1, h⟩
      · exact absurd h h2
      · exact .inr (.inr ⟨h1, h⟩)
theorem mem_del {F : List Fil} {nm : List UInt8} {g : Fil} : g ∈ delF F nm ↔ g ∈ F ∧ g.name ≠ nm := by
  unfold delF; rw [List.mem_filter]; simp
theorem getF_set {F : List Fil} (h : Srt F) (f : Fil) (nm : List UInt8) : getF (setF F f) nm = if f.name = nm then some f else getF F nm := by
  by_cases hn : f.name = nm
  · rw [if_pos hn, getF_some (srt_set h f)]
    exact ⟨mem_set.2 (.inl rfl), hn⟩
  · rw [if_neg hn]
    cases hg : getF F nm with
    | none =>
      rw [getF_none] at hg ⊢
      intro g hgm
      rcases mem_set.1 hgm with rfl | hgm
      · exact hn
      · exact hg g hgm.1
    | some g =>
      rw [getF_some h] at hg
      rw [getF_some (srt_set h f)]
      exact ⟨mem_set.2 (.inr ⟨hg.1, by rw [hg.2]; exact fun e => hn e.symm⟩), hg.2⟩
theorem getF_del {F : List Fil} (h : Srt F) (n2 nm : List UInt8) : getF (delF F n2) nm = if n2 = nm then none else getF F nm := by
  by_cases hn : n2 = nm
  · rw [if_pos hn, getF_none]
    intro g hg
    rw [← hn]
    exact (mem_del.1 hg).2
  · rw [if_neg hn]
    cases hg : getF F nm with
    | none =>
      rw [getF_none] at hg ⊢
      intro g hgm
      exact hg g (mem_del.1 hgm).1
    | some g =>
      rw [getF_some h] at hg
      rw [getF_some (srt_del h _)]
      exact ⟨mem_del.2 ⟨hg.1, by rw [hg.2]; exact fun e => hn e.symm⟩, hg.2⟩
theorem perm_of_mem {F G : List Fil} (hF : (F.map (·.name)).Nodup) (hG : (G.map (·.name)).Nodup) (h : ∀ f, f ∈ F ↔ f ∈ G) : F.Perm G := by
  have nd : ∀ L : List Fil, (L.map (·.name)).Nodup → L.Nodup := fun L hL => (List.pairwise_map.1 hL).imp fun h e => h (by rw [e])
  exact (List.perm_ext_iff_of_nodup (nd F hF) (nd G hG)).2 h
theorem setF_perm {F : List Fil} (h : Srt F) (f : Fil) : (setF F f).Perm (f :: delF F f.name) := by
  refine perm_of_mem (srt_nodup (srt_set h f)) ?_ (fun g => ?_)
  · rw [List.map_cons, List.nodup_cons]
    refine ⟨fun hm => ?_, srt_nodup (srt_del h _)⟩
    obtain ⟨g, hg, e⟩ := List.mem_map.1 hm
    exact (mem_del.1 hg).2 e
  · rw [mem_set, List.mem_cons, mem_del]
theorem srt_eq {F G : List Fil} (hF : Srt F) (hG : Srt G) (h : F.Perm G) : F = G :=
  List.Perm.eq_of_pairwise (le := fun a b : Fil => a.name < b.name) (fun a b _ _ h1 h2 => absurd (bl_trans h1 h2) (bl_irrefl _)) hF hG h
/-! ### What is done -/
structure Dsk where
  fs : List Fil
  off : Bool
  ar : Option (Nat × Int)
def mayE (D : Dsk) (nm : List UInt8) (there : Bool) : Nat := if D.off = true then 80 else if nameB nm = false then 1 else if there = true ∧ getF D.fs nm = none then 81 else 0
/-- The act's turn: is it cut off, and with which part? -/
def cutD (D : Dsk) : Dsk × Bool × Int :=
  match D.ar with
  | none => (D, false, 0)
  | some (a + 1, p) => ({ D with ar := some (a, p) }, false, 0)
  | some (0, p) => ({ D with ar := none, off := true }, true, p)
def modI (n : Int) (by_ : Nat) : Nat := (n % (by_ : Int)).toNat
def oldF (F : List Fil) (nm : List UInt8) : Fil := (getF F nm).getD ⟨nm, [], 0⟩
def doF (F : List Fil) (kind : Nat) (nm p : List UInt8) (n : Nat) : List Fil :=
  match kind with
  | 0 => setF F ⟨nm, (oldF F nm).b ++ p, (oldF F nm).sure⟩
  | 1 => setF F ⟨nm, (oldF F nm).b, (oldF F nm).b.length⟩
  | 2 => setF F ⟨nm, p, p.length⟩
  | 3 => setF F ⟨nm, (oldF F nm).b.take n, min (oldF F nm).sure n⟩
  | _ => delF F nm
def doD (D : Dsk) (kind : Nat) (nm p : List UInt8) (n : Int) : Dsk × Nat :=
  if mayE D nm (decide (kind ≠ 0 ∧ kind ≠ 2)) ≠ 0 then (D, mayE D nm (decide (kind ≠ 0 ∧ kind ≠ 2))) else
  if kind = 3 ∧ (n < 0 ∨ ((oldF D.fs nm).b.length : Int) < n) then (D, 1) else
  ({ (cutD D).1 with fs := if (cutD D).2.1 = false ∨ kind = 0 ∨ modI (cutD D).2.2 2 = 1 then doF D.fs kind nm (if (cutD D).2.1 = true ∧ kind = 0 then p.take (modI (cutD D).2.2 (p.length + 1)) else p) n.toNat else D.fs }, if (cutD D).2.1 = true then 80 else 0)
def readD (D : Dsk) (nm : List UInt8) : List UInt8 × Nat := if mayE D nm true ≠ 0 then ([], mayE D nm true) else ((oldF D.fs nm).b, 0)
def armD (D : Dsk) (a p : Int) : Dsk := { D with ar := if 0 ≤ a then some (a.toNat, p) else none }
def startS (f : Fil) (i : Nat) (keep : List Int) : Nat := f.sure + (if i < keep.length then modI (keep.getD i 0) (f.b.length - f.sure + 1) else 0)
def startF1 (f : Fil) (i : Nat) (keep : List Int) : Fil := ⟨f.name, f.b.take (startS f i keep), startS f i keep⟩
def startF (F : List Fil) (keep : List Int) : List Fil := F.mapIdx fun i f => startF1 f i keep
def startD (D : Dsk) (keep : List Int) : Dsk := ⟨startF D.fs keep, false, none⟩
theorem modI_lt (n : Int) {k : Nat} (hk : 0 < k) : modI n k < k := by
  unfold modI
  have h1 := Int.emod_nonneg n (show (k : Int) ≠ 0 by omega)
  have h2 := Int.emod_lt_of_pos n (show (0 : Int) < k by omega)
  omega
/-- What holds of all files: in order, what is sure is there, none too long. -/
structure Good (F : List Fil) (M : Nat) : Prop where
  srt : Srt F
  sure : ∀ f ∈ F, f.sure ≤ f.b.length
  short : ∀ f ∈ F, f.b.length ≤ M
  nm : ∀ f ∈ F, f.name.length ≤ 32
theorem good_set {F : List Fil} {M M' : Nat} (h : Good F M) (hM : M ≤ M') {f : Fil} (h1 : f.sure ≤ f.b.length) (h2 : f.b.length ≤ M') (h3 : f.name.length ≤ 32) : Good (setF F f) M' :=
  ⟨srt_set h.srt f, fun g hg => by
    rcases mem_set.1 hg with rfl | hg
    · exact h1
    · exact h.sure g hg.1, fun g hg => by
    rcases mem_set.1 hg with rfl | hg
    · exact h2
    · exact Nat.le_trans (h.short g hg.1) hM, fun g hg => by
    rcases mem_set.1 hg with rfl | hg
    · exact h3
    · exact h.nm g hg.1⟩
theorem good_del {F : List Fil} {M : Nat} (h : Good F M) (nm : List UInt8) : Good (delF F nm) M :=
  ⟨srt_del h.srt nm, fun g hg => h.sure g (mem_del.1 hg).1, fun g hg => h.short g (mem_del.1 hg).1, fun g hg => h.nm g (mem_del.1 hg).1⟩
theorem Good.mono {F : List Fil} {M M' : Nat} (h : Good F M) (hM : M ≤ M') : Good F M' := ⟨h.srt, h.sure, fun g hg => Nat.le_trans (h.short g hg) hM, h.nm⟩
theorem good_nil (M : Nat) : Good [] M := ⟨List.Pairwise.nil, by simp, by simp, by simp⟩
theorem good_old {F : List Fil} {M : Nat} (h : Good F M) (nm : List UInt8) : (oldF F nm).sure ≤ (oldF F nm).b.length ∧ (oldF F nm).b.length ≤ M ∧ (oldF F nm).name = nm := by
  unfold oldF
  cases hg : getF F nm with
  | none => simp
  | some f =>
    obtain ⟨h1, h2⟩ := (getF_some h.srt).1 hg
    exact ⟨h.sure f h1, h.short f h1, h2⟩
theorem good_doF {F : List Fil} {M : Nat} (h : Good F M) (kind : Nat) (nm p : List UInt8) (n : Nat) (hn : nm.length ≤ 32) : Good (doF F kind nm p n) (M + p.length) := by
  obtain ⟨h1, h2, h3⟩ := good_old h nm
  unfold doF
  split
  · exact good_set h (by omega) (by simp only [List.length_append]; omega) (by simp only [List.length_append]; omega) hn
  · exact good_set h (by omega) (Nat.le_refl _) (by simp only; omega) hn
  · exact good_set h (by omega) (Nat.le_refl _) (by simp only; omega) hn
  · exact good_set h (by omega) (by simp only [List.length_take]; omega) (by simp only [List.length_take]; omega) hn
  · exact (good_del h nm).mono (by omega)
theorem name_short {l : List UInt8} (h : nameB l = true) : l.length ≤ 32 := by
  unfold nameB at h
  simp only [decide_eq_true_eq] at h
  omega
theorem may_short {D : Dsk} {nm : List UInt8} {b : Bool} (h : mayE D nm b = 0) : nm.length ≤ 32 := by
  refine name_short ?_
  unfold mayE at h
  split at h
  · omega
  split at h
  · omega
  rename_i h2
  simpa using h2
theorem good_doD {D : Dsk} {M : Nat} (h : Good D.fs M) (kind : Nat) (nm p : List UInt8) (n : Int) : Good (doD D kind nm p n).1.fs (M + p.length) := by
  unfold doD
  split
  · exact h.mono (by omega)
  rename_i hm
  have hn := may_short (Decidable.not_not.1 hm)
  split
  · exact h.mono (by omega)
  simp only
  split
  · split
    · exact (good_doF h kind nm _ _ hn).mono (by rw [List.length_take]; omega)
    · exact good_doF h kind nm _ _ hn
  · exact h.mono (by omega)
theorem startS_le {f : Fil} (h : f.sure ≤ f.b.length) (i : Nat) (keep : List Int) : f.sure ≤ startS f i keep ∧ startS f i keep ≤ f.b.length := by
  unfold startS
  split
  · have := modI_lt (keep.getD i 0) (show 0 < f.b.length - f.sure + 1 by omega)
    omega
  · omega
theorem good_start {F : List Fil} {M : Nat} (h : Good F M) (keep : List Int) : Good (startF F keep) M := by
  have hm : ∀ g ∈ startF F keep, ∃ i f, f ∈ F ∧ g = startF1 f i keep := by
    intro g hg
    obtain ⟨i, hi, rfl⟩ := List.mem_mapIdx.1 hg
    exact ⟨i, F[i], List.getElem_mem _, rfl⟩
  refine ⟨?_, fun g hg => ?_, fun g hg => ?_, fun g hg => ?_⟩
  · unfold Srt startF
    rw [List.pairwise_iff_getElem]
    intro i j hi hj hij
    have := List.pairwise_iff_getElem.1 h.srt i j (by simpa using hi) (by simpa using hj) hij
    simpa [startF1] using this
  · obtain ⟨i, f, hf, rfl⟩ := hm g hg
    have := startS_le (h.sure f hf) i keep
    simp only [startF1, List.length_take]; omega
  · obtain ⟨i, f, hf, rfl⟩ := hm g hg
    have := h.short f hf
    simp only [startF1, List.length_take]; omega
  · obtain ⟨i, f, hf, rfl⟩ := hm g hg
    exact h.nm f hf
/-! ### The program's files -/
structure PE where
  name : List UInt8
  fb : Nat
  v : Value
  b : List UInt8
  sure : Nat
def PE.fil (e : PE) : Fil := ⟨e.name, e.b, e.sure⟩
def kvE (es : List PE) : SEs := es.map fun e => (e.name, Value.pointer (some ⟨e.fb, 0, none⟩))
def ixE (es : List PE) (nm : List UInt8) : Nat := es.findIdx fun e => e.name == nm
structure Rep (es : List PE) (F : List Fil) : Prop where
  srt : Srt F
  perm : (es.map PE.fil).Perm F
theorem Rep.nodup {es : List PE} {F : List Fil} (h : Rep es F) : (es.map (·.name)).Nodup := by
  have h1 := (h.perm.map (·.name)).nodup_iff.2 (srt_nodup h.srt)
  rwa [List.map_map] at h1
theorem kfind_kvE (nm : List UInt8) : ∀ (es : List PE) (i : Nat), kfind nm (kvE es) i = (es[ixE es nm]?).map fun e => (i + ixE es nm, Value.pointer (some ⟨e.fb, 0, none⟩))
  | [], i => rfl
  | e :: es, i => by
    unfold kvE ixE
    rw [List.map_cons, List.findIdx_cons]
    unfold kfind
    by_cases h : e.name = nm
    · rw [if_pos h]; simp [h]
    · rw [if_neg h]
      have := kfind_kvE nm es (i + 1)
      unfold kvE ixE at this
      rw [this, show (e.name == nm) = false from by simpa using h]
      simp only [cond_false, List.getElem?_cons_succ]
      cases es[es.findIdx fun e => e.name == nm]? with
      | none => rfl
      | some e => simp only [Option.map_some]; congr 2; omega
theorem ix_at {es : List PE} {nm : List UInt8} (h : ixE es nm < es.length) : ∃ e, es[ixE es nm]? = some e ∧ e.name = nm := by
  refine ⟨es[ixE es nm], List.getElem?_eq_getElem h, ?_⟩
  have h2 : (es[ixE es nm].name == nm) = true := List.findIdx_getElem (xs := es) (p := fun e : PE => e.name == nm) (w := h)
  exact eq_of_beq h2
theorem ix_none {es : List PE} {nm : List UInt8} (h : ¬ ixE es nm < es.length) : ∀ e ∈ es, e.name ≠ nm := by
  have h1 : es.findIdx (fun e => e.name == nm) = es.length := Nat.le_antisymm List.findIdx_le_length (by unfold ixE at h; omega)
  have := List.findIdx_eq_length.1 h1
  intro e he
  simpa using this e he
theorem ix_of {es : List PE} {F : List Fil} (h : Rep es F) {i : Nat} {e : PE} (he : es[i]? = some e) : ixE es e.name = i := by
  have hi : i < es.length := (List.getElem?_eq_some_iff.1 he).1
  have hlt : ixE es e.name < es.length := by
    refine Classical.byContradiction fun hn => ?_
    exact ix_none hn e (List.mem_of_getElem? he) rfl
  obtain ⟨e2, h2, h3⟩ := ix_at hlt
  have hn := h.nodup
  have h4 : (es.map (·.name))[ixE es e.name]? = (es.map (·.name))[i]? := by rw [List.getElem?_map, List.getElem?_map, h2, he]; simp [h3]
  exact (List.getElem?_inj (by simpa using hlt) hn).1 h4
theorem rep_get {es : List PE} {F : List Fil} (h : Rep es F) (nm : List UInt8) : (es[ixE es nm]?).map PE.fil = getF F nm := by
  by_cases hlt : ixE es nm < es.length
  · obtain ⟨e, h2, h3⟩ := ix_at hlt
    rw [h2]
    refine Eq.symm ((getF_some h.srt).2 ⟨h.perm.mem_iff.1 (List.mem_map.2 ⟨e, List.mem_of_getElem? h2, rfl⟩), h3⟩)
  · rw [List.getElem?_eq_none (by omega)]
    refine Eq.symm (getF_none.2 fun f hf => ?_)
    obtain ⟨e, he, rfl⟩ := List.mem_map.1 (h.perm.mem_iff.2 hf)
    exact ix_none hlt e he
theorem kvE_set {es : List PE} {i : Nat} {e e' : PE} (he : es[i]? = some e) (hn : e'.name = e.name) (hb : e'.fb = e.fb) : kvE (es.set i e') = kvE es := by
  unfold kvE
  rw [List.map_set, hn, hb]
  apply List.ext_getElem?
  intro j
  rw [List.getElem?_set]
  split
  · rename_i h; subst h
    have hi : i < es.length := (List.getElem?_eq_some_iff.1 he).1
    rw [if_pos (by simpa using hi), List.getElem?_map, he]; rfl
  · rfl
def putE (es : List PE) (e : PE) : List PE := if ixE es e.name < es.length then es.set (ixE es e.name) e else es ++ [e]
theorem kput_kvE (es : List PE) (e : PE) : kput (kvE es) e.name (.pointer (some ⟨e.fb, 0, none⟩)) = kvE (putE es e) := by
  unfold kput putE
  rw [kfind_kvE]
  by_cases h : ixE es e.name < es.length
  · rw [if_pos h, List.getElem?_eq_getElem h]
    simp only [Option.map_some, Nat.zero_add]
    simp [kvE, List.map_set]
  · rw [if_neg h, List.getElem?_eq_none (by omega)]
    simp [kvE]
theorem kdel_kvE (es : List PE) (nm : List UInt8) : kdel (kvE es) nm = kvE (es.eraseIdx (ixE es nm)) := by
  unfold kdel
  rw [kfind_kvE]
  by_cases h : ixE es nm < es.length
  · rw [List.getElem?_eq_getElem h]
    simp only [Option.map_some, Nat.zero_add, kvE]
    rw [map_eraseIdx]
  · rw [List.getElem?_eq_none (by omega), List.eraseIdx_of_length_le (by omega)]
    rfl
theorem rep_del {es : List PE} {F : List Fil} (h : Rep es F) (nm : List UInt8) : Rep (es.eraseIdx (ixE es nm)) (delF F nm) := by
  refine ⟨srt_del h.srt nm, ?_⟩
  have hn := h.nodup
  have hsub : ((es.eraseIdx (ixE es nm)).map PE.fil).Sublist (es.map PE.fil) := (List.eraseIdx_sublist _ _).map _
  refine perm_of_mem ?_ (srt_nodup (srt_del h.srt nm)) (fun f => ?_)
  · rw [List.map_map]
    exact hn.sublist ((List.eraseIdx_sublist _ _).map _)
  · rw [mem_del, ← h.perm.mem_iff]
    by_cases hlt : ixE es nm < es.length
    · obtain ⟨e, h2, h3⟩ := ix_at hlt
      have hp : es.Perm (e :: es.eraseIdx (ixE es nm)) := (perm_erase es _ e h2).symm
      have hn2 := ((hp.map (·.name)).nodup_iff.1 hn)
      rw [List.map_cons, List.nodup_cons] at hn2
      rw [(hp.map PE.fil).mem_iff, List.map_cons, List.mem_cons]
      constructor
      · intro hm
        refine ⟨.inr hm, fun e4 => hn2.1 ?_⟩
        obtain ⟨e5, h5, rfl⟩ := List.mem_map.1 hm
        exact List.mem_map.2 ⟨e5, h5, e4.trans h3.symm⟩
      · rintro ⟨rfl | hm, h6⟩
        · exact absurd h3 h6
        · exact hm
    · rw [List.eraseIdx_of_length_le (by omega)]
      exact ⟨fun hm => ⟨hm, by
        obtain ⟨e, he, rfl⟩ := List.mem_map.1 hm
        exact ix_none hlt e he⟩, fun hm => hm.1⟩
theorem rep_put {es : List PE} {F : List Fil} (h : Rep es F) (e : PE) : Rep (putE es e) (setF F e.fil) := by
  refine ⟨srt_set h.srt _, ?_⟩
  refine List.Perm.trans ?_ (setF_perm h.srt e.fil).symm
  have hd : ((es.eraseIdx (ixE es e.name)).map PE.fil).Perm (delF F e.name) := (rep_del h e.name).perm
  refine List.Perm.trans ?_ (hd.cons e.fil)
  unfold putE
  by_cases hlt : ixE es e.name < es.length
  · rw [if_pos hlt]
    have := perm_erase (es.set (ixE es e.name) e) (ixE es e.name) e (by simp [hlt])
    rw [List.eraseIdx_set_eq] at this
    exact (this.symm.map PE.fil)
  · rw [if_neg hlt, List.eraseIdx_of_length_le (by omega), List.map_append]
    exact List.perm_append_comm
theorem rep_set {es : List PE} {F : List Fil} (h : Rep es F) {i : Nat} {e : PE} (he : es[i]? = some e) (e' : PE) (hn : e'.name = e.name) : Rep (es.set i e') (setF F e'.fil) := by
  have hi : i < es.length := (List.getElem?_eq_some_iff.1 he).1
  have := rep_put h e'
  unfold putE at this
  rw [hn, ix_of h he, if_pos hi] at this
  exact this
/-- The keys in order. -/
theorem rep_keys {es : List PE} {F : List Fil} (h : Rep es F) {ss : List (List UInt8)} (hs : ss.Perm (es.map (·.name))) : ss.mergeSort (fun x y => decide (x ≤ y)) = F.map (·.name) := by
  have h1 : ss.Perm (F.map (·.name)) := hs.trans (by have := h.perm.map (·.name); rwa [List.map_map] at this)
  have h2 := mergeSort_of_perm h1
  unfold leB at h2
  rw [h2]
  refine List.mergeSort_of_pairwise ?_
  rw [List.pairwise_map]
  exact h.srt.imp fun h => by simpa using List.le_of_lt h
end Go.Proofs.YtjcchjgkkplamaaGreatDoor
