/- Laws 18: rows of acts; what an act does to the files. Plain mathematics. -/
import Derived.Test.YtjcchjgkkplamaaDoorActD
set_option linter.unusedVariables false
namespace Go.Proofs.YtjcchjgkkplamaaDoor
open Go.RowKit Go.SW
/-- An act, ac the law's argument tells it. -/
structure AV where
  dv : Int
  nm : List UInt8
  vb : Value
  b : List UInt8
  n : Int
  m : Int
  vl : Value
  ks : List Int
def actC (a : AV) : List Value := [.int .i64 a.dv, .string (bs a.nm), a.vb, .int .i64 a.n, .int .i64 a.m, a.vl]
theorem actC_len (a : AV) : (actC a).length = 6 := rfl
def sumB (ac : List AV) : Nat := (ac.map fun a => a.b.length).sum
theorem sumB_next {ac : List AV} {i : Nat} {a : AV} (h : ac[i]? = some a) : sumB (ac.take (i + 1)) = sumB (ac.take i) + a.b.length := by
  rw [← take_next h]
  simp [sumB]
theorem sumB_le : ∀ (ac : List AV) (i : Nat), sumB (ac.take i) ≤ sumB ac
  | [], i => by simp [sumB]
  | a :: ac, 0 => by simp [sumB]
  | a :: ac, i + 1 => by
    have := sumB_le ac i
    unfold sumB at this ⊢
    rw [List.take_succ_cons, List.map_cons, List.map_cons, List.sum_cons, List.sum_cons]
    omega
/-- What is asked of each act: how its bytes and numbers read. -/
structure ActOk (w : World) (a : AV) : Prop where
  b : RB w.cell? a.vb a.b
  l : Row w.cell? a.vl 1 a.ks.length (iv a.ks)
  n : a.n ≤ 9223372036854775807
  s : a.nm.length ≤ 1048576
  k : a.ks.length ≤ 1048576
abbrev stepD (D : Dsk) (a : AV) : Dsk := actD D a.dv a.nm a.b a.n a.m a.ks
theorem getF_doF {F : List Fil} (h : Srt F) (kind : Nat) {nm p : List UInt8} {n : Nat} {x : List UInt8} (hx : nm ≠ x) : getF (doF F kind nm p n) x = getF F x := by
  unfold doF
  split
  · rw [getF_set h, if_neg hx]
  · rw [getF_set h, if_neg hx]
  · rw [getF_set h, if_neg hx]
  · rw [getF_set h, if_neg hx]
  · rw [getF_del h, if_neg hx]
theorem getF_doD {D : Dsk} (h : Srt D.fs) (kind : Nat) {nm p : List UInt8} {n : Int} {x : List UInt8} (hx : nm ≠ x) : getF (doD D kind nm p n).1.fs x = getF D.fs x := by
  unfold doD
  split
  · rfl
  split
  · rfl
  · simp only
    split
    · rw [getF_doF h _ hx]
    · rfl
theorem getF_act {D : Dsk} (h : Srt D.fs) {dv : Int} {nm b : List UInt8} {n m : Int} {ks : List Int} {x : List UInt8} (h6 : dv ≠ 6) (hx : nm ≠ x) : getF (actD D dv nm b n m ks).fs x = getF D.fs x := by
  unfold actD
  split
  · exact getF_doD h _ hx
  split
  · rfl
  · rfl
theorem oldF_name {F : List Fil} (h : Srt F) (nm : List UInt8) : (oldF F nm).name = nm := by
  unfold oldF
  cases hg : getF F nm with
  | none => rfl
  | some f => exact ((getF_some h).1 hg).2
theorem oldF_sure {F : List Fil} {M : Nat} (h : Good F M) (nm : List UInt8) : (oldF F nm).sure ≤ (oldF F nm).b.length := (good_old h nm).1
theorem oldF_set {F : List Fil} (h : Srt F) (f : Fil) (nm : List UInt8) : oldF (setF F f) nm = if f.name = nm then f else oldF F nm := by
  unfold oldF
  rw [getF_set h]
  split <;> rfl
/-- What is sure of a file lasts. -/
def Last (f f' : Fil) : Prop := f.sure ≤ f'.sure ∧ f'.sure ≤ f'.b.length ∧ f'.b.take f.sure = f.b.take f.sure
theorem Last.refl {f : Fil} (h : f.sure ≤ f.b.length) : Last f f := ⟨Nat.le_refl _, h, rfl⟩
theorem getF_start {F : List Fil} (h : Srt F) (ks : List Int) (nm : List UInt8) : getF (startF F ks) nm = none ∧ getF F nm = none ∨ ∃ i f, getF F nm = some f ∧ getF (startF F ks) nm = some (startF1 f i ks) := by
  have hs : Srt (startF F ks) := by
    have := partF_srt h ks F.length
    rwa [partF_all (Nat.le_refl _)] at this
  cases hg : getF F nm with
  | none =>
    refine .inl ⟨getF_none.2 fun f hf => ?_, rfl⟩
    unfold startF at hf
    obtain ⟨i, hi, rfl⟩ := List.mem_mapIdx.1 hf
    exact getF_none.1 hg F[i] (List.getElem_mem hi)
  | some f =>
    obtain ⟨h1, h2⟩ := (getF_some h).1 hg
    obtain ⟨i, hi⟩ := List.getElem?_of_mem h1
    refine .inr ⟨i, f, rfl, (getF_some hs).2 ⟨?_, h2⟩⟩
    refine List.mem_of_getElem? (i := i) ?_
    unfold startF
    rw [List.getElem?_mapIdx, hi]; rfl
theorem last_start {F : List Fil} {M : Nat} (h : Good F M) (ks : List Int) (nm : List UInt8) : Last (oldF F nm) (oldF (startF F ks) nm) := by
  rcases getF_start h.srt ks nm with ⟨h1, h2⟩ | ⟨i, f, h1, h2⟩
  · unfold oldF; rw [h1, h2]; exact Last.refl (Nat.le_refl _)
  · unfold oldF
    rw [h1, h2]
    have hm := ((getF_some h.srt).1 h1).1
    have hs := startS_le (h.sure f hm) i ks
    show Last f (startF1 f i ks)
    unfold startF1
    refine ⟨hs.1, by simp only [List.length_take]; omega, ?_⟩
    simp only [List.take_take]
    rw [Nat.min_eq_left hs.1]
theorem doF0 (F : List Fil) (nm p : List UInt8) (n : Nat) : doF F 0 nm p n = setF F ⟨nm, (oldF F nm).b ++ p, (oldF F nm).sure⟩ := rfl
theorem doF1 (F : List Fil) (nm p : List UInt8) (n : Nat) : doF F 1 nm p n = setF F ⟨nm, (oldF F nm).b, (oldF F nm).b.length⟩ := rfl
theorem doF2 (F : List Fil) (nm p : List UInt8) (n : Nat) : doF F 2 nm p n = setF F ⟨nm, p, p.length⟩ := rfl
theorem last_doD {D : Dsk} {M : Nat} (h : Good D.fs M) (kind : Nat) (nm p : List UInt8) (n : Int) (x : List UInt8) (hx : nm = x → kind < 2) : Last (oldF D.fs x) (oldF (doD D kind nm p n).1.fs x) := by
  have hs := oldF_sure h x
  by_cases hn : nm = x
  · subst hn
    have hk := hx rfl
    unfold doD
    split
    · exact Last.refl hs
    split
    · exact Last.refl hs
    simp only
    split
    · match kind, hk with
      | 0, _ =>
        rw [doF0, oldF_set h.srt, if_pos rfl]
        refine ⟨Nat.le_refl _, by simp only [List.length_append]; omega, ?_⟩
        simp only
        rw [List.take_append_of_le_length hs]
      | 1, _ =>
        rw [doF1, oldF_set h.srt, if_pos rfl]
        exact ⟨hs, Nat.le_refl _, rfl⟩
    · exact Last.refl hs
  · unfold oldF
    rw [getF_doD h.srt kind hn]
    exact Last.refl hs
theorem last_act {D : Dsk} {M : Nat} (h : Good D.fs M) {dv : Int} {nm b : List UInt8} {n m : Int} {ks : List Int} (x : List UInt8) (hx : ¬ (nm = x ∧ 2 ≤ dv ∧ dv ≤ 4)) : Last (oldF D.fs x) (oldF (actD D dv nm b n m ks).fs x) := by
  unfold actD
  split
  · exact last_doD h _ _ _ _ _ (fun e => by
      have h1 : ¬ (2 ≤ dv ∧ dv ≤ 4) := fun h2 => hx ⟨e, h2⟩
      have h2 : dv < 2 := by omega
      omega)
  split
  · exact Last.refl (oldF_sure h x)
  split
  · exact last_start h ks x
  · exact Last.refl (oldF_sure h x)
/-- What the law reads: the file of a name, its bytes and what is sure. -/
def scanF (F : List Fil) (nm : List UInt8) : List UInt8 × Nat := F.foldl (fun acc f => if f.name = nm then (f.b, f.sure) else acc) ([], 0)
theorem scanF_next {F : List Fil} {i : Nat} {f : Fil} (h : F[i]? = some f) (nm : List UInt8) : scanF (F.take (i + 1)) nm = if f.name = nm then (f.b, f.sure) else scanF (F.take i) nm := by
  rw [← take_next h]
  unfold scanF
  rw [List.foldl_append]; rfl
theorem scanF_none {F : List Fil} {nm : List UInt8} (h : ∀ f ∈ F, f.name ≠ nm) (a : List UInt8 × Nat) : F.foldl (fun acc f => if f.name = nm then (f.b, f.sure) else acc) a = a := by
  induction F generalizing a with
  | nil => rfl
  | cons f F ih => rw [List.foldl_cons, if_neg (h f List.mem_cons_self)]; exact ih (fun g hg => h g (List.mem_cons_of_mem _ hg)) a
theorem scanF_all {F : List Fil} (h : Srt F) (nm : List UInt8) : scanF F nm = ((oldF F nm).b, (oldF F nm).sure) := by
  have hg : ∀ (F : List Fil), Srt F → ∀ a, F.foldl (fun acc f => if f.name = nm then (f.b, f.sure) else acc) a = match getF F nm with | some f => (f.b, f.sure) | none => a := by
    intro F
    induction F with
    | nil => intro _ a; rfl
    | cons f F ih =>
      intro hS a
      have hS2 := List.pairwise_cons.1 hS
      rw [List.foldl_cons]
      unfold getF
      rw [List.find?_cons]
      by_cases hf : f.name = nm
      · rw [if_pos hf, show (f.name == nm) = true from by simpa using hf]
        simp only
        refine scanF_none (fun g hg e => ?_) _
        have := hS2.1 g hg
        rw [hf, e] at this
        exact bl_irrefl _ this
      · rw [if_neg hf, show (f.name == nm) = false from by simpa using hf]
        exact ih hS2.2 a
  unfold scanF
  rw [hg F h]
  unfold oldF
  cases getF F nm <;> rfl
/-! ### A Put lasts wholly, or not at all -/
theorem mayE_name {D : Dsk} {nm : List UInt8} {th : Bool} (hd : D.off = false) (hn : nameB nm = false) : mayE D nm th = 1 := by unfold mayE; rw [if_neg (by rw [hd]; simp), if_pos hn]
theorem readD_get {D : Dsk} (hd : D.off = false) {nm : List UInt8} (hn : ¬ nameB nm = false) : readD D nm = match getF D.fs nm with | some f => (f.b, 0) | none => ([], 81) := by
  unfold readD oldF mayE
  rw [if_neg (show ¬ D.off = true by rw [hd]; simp), if_neg hn]
  cases getF D.fs nm <;> simp
/-- All that is there is sure. -/
def Sure (F : List Fil) : Prop := ∀ f ∈ F, f.sure = f.b.length
theorem modI_one (n : Int) : modI n 1 = 0 := by have := modI_lt n (show 0 < 1 by omega); omega
theorem startF1_sure {f : Fil} (h : f.sure = f.b.length) (i : Nat) (ks : List Int) : startF1 f i ks = f := by
  have e : startS f i ks = f.sure := by
    unfold startS
    rw [show f.b.length - f.sure + 1 = 1 by omega, modI_one]
    split <;> rfl
  unfold startF1
  rw [e, h, List.take_length]
  cases f; simp_all
theorem start_sure {F : List Fil} (h : Sure F) (ks : List Int) : startF F ks = F := by
  unfold startF
  apply List.ext_getElem?
  intro j
  rw [List.getElem?_mapIdx]
  cases hj : F[j]? with
  | none => rfl
  | some f => simp only [Option.map_some]; rw [startF1_sure (h f (List.mem_of_getElem? hj))]
theorem sure_start {F : List Fil} {M : Nat} (h : Good F M) : Sure (startF F []) := by
  intro f hf
  unfold startF at hf
  obtain ⟨i, hi, rfl⟩ := List.mem_mapIdx.1 hf
  have := h.sure _ (List.getElem_mem hi)
  unfold startF1 startS
  simp only [List.length_nil, Nat.not_lt_zero, if_false, Nat.add_zero, List.length_take]
  omega
theorem sure_set {F : List Fil} (h : Sure F) {f : Fil} (hf : f.sure = f.b.length) : Sure (setF F f) := by
  intro g hg
  rcases mem_set.1 hg with rfl | hg
  · exact hf
  · exact h g hg.1
/-- What the law DiskWhole sees. -/
theorem whole_put {D : Dsk} {M : Nat} (hG : Good D.fs M) {nm p : List UInt8} {part : Int} {cut : Bool} {ks : List Int} {D1 D2 D3 : Dsk} {R : Dsk × Nat} (h1 : D1 = startD D []) (h2 : D2 = if cut = true then armD D1 0 part else D1) (hR : R = doD D2 2 nm p 0) (h3 : D3 = startD R.1 ks) :
    (R.2 = 1 ∧ (readD D1 nm).2 = 1) ∨ (R.2 = (if cut = true then 80 else 0) ∧ (readD D3 nm = (p, 0) ∨ cut = true ∧ readD D3 nm = readD D1 nm)) := by
  have hoff1 : D1.off = false := by rw [h1]; rfl
  have hoff2 : D2.off = false := by rw [h2]; split <;> exact hoff1
  have hfs2 : D2.fs = D1.fs := by rw [h2]; split <;> rfl
  have hS : Sure D1.fs := by rw [h1]; exact sure_start hG
  have hG1 : Good D1.fs M := by rw [h1]; exact good_start hG []
  by_cases hn : nameB nm = false
  · left
    refine ⟨?_, ?_⟩
    · rw [hR, doD_err (kind := 2) (th := false) rfl (by rw [mayE_name hoff2 hn]; omega), mayE_name hoff2 hn]
    · unfold readD
      rw [mayE_name hoff1 hn]; rfl
  · right
    have hm : mayE D2 nm false = 0 := by
      unfold mayE
      rw [if_neg (by rw [hoff2]; simp), if_neg hn, if_neg (fun h => by cases h.1)]
    obtain ⟨E, cu, pt, hc⟩ : ∃ E cu pt, cutD D2 = (E, cu, pt) := ⟨_, _, _, rfl⟩
    have hcu : cu = cut := by
      rw [h2] at hc
      cases cut with
      | true =>
        rw [if_pos rfl] at hc
        have : cutD (armD D1 0 part) = ({ (armD D1 0 part) with ar := none, off := true }, true, part) := rfl
        rw [this] at hc; cases hc; rfl
      | false =>
        rw [if_neg (by simp)] at hc
        have har : D1.ar = none := by rw [h1]; rfl
        unfold cutD at hc
        rw [har] at hc; cases hc; rfl
    have hok := doD_ok (kind := 2) (th := false) (n := 0) (p := p) rfl hm (fun h => absurd h.1 (by decide)) hc
    rw [← hR, hcu] at hok
    rw [hok] at h3 ⊢
    refine ⟨rfl, ?_⟩
    have hoff3 : D3.off = false := by rw [h3]; rfl
    have hfs3 : D3.fs = startF (if cut = false ∨ 2 = 0 ∨ modI pt 2 = 1 then doF D2.fs 2 nm (if cut = true ∧ 2 = 0 then p.take (modI pt (p.length + 1)) else p) (0 : Int).toNat else D2.fs) ks := by rw [h3]; rfl
    rw [readD_get hoff3 hn, readD_get hoff1 hn, hfs3]
    by_cases hrun : cut = false ∨ 2 = 0 ∨ modI pt 2 = 1
    · left
      rw [if_pos hrun, if_neg (fun h => absurd h.2 (by decide))]
      rw [doF2, hfs2, start_sure (sure_set hS rfl), getF_set hG1.srt, if_pos rfl]
    · right
      rw [if_neg hrun, hfs2, start_sure hS]
      refine ⟨?_, rfl⟩
      cases cut
      · exact absurd (.inl rfl) hrun
      · rfl
end Go.Proofs.YtjcchjgkkplamaaDoor
