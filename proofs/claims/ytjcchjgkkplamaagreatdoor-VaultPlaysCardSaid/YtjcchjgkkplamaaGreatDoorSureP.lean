/- Layer 18 (disk): what holds of a disk's state, the program's and the document's; what is sure lasts. Plain mathematics. -/
import Derived.Test.YtjcchjgkkplamaaGreatDoorDisk2
set_option linter.unusedVariables false
namespace Go.Proofs.YtjcchjgkkplamaaGreatDoor
open Go.RowKit Go.SW
theorem arOk_do {D : Dsk} (h : ArOk D.ar) (kind : Nat) (nm p : List UInt8) (n : Int) : ArOk (doD D kind nm p n).1.ar := by
  unfold doD
  split
  · exact h
  split
  · exact h
  · exact arOk_cut h
theorem len_doF (F : List Fil) (kind : Nat) (nm p : List UInt8) (n : Nat) : (doF F kind nm p n).length ≤ F.length + 1 := by
  have hs : ∀ f : Fil, (setF F f).length ≤ F.length + 1 := by
    intro f
    unfold setF
    rw [List.length_append, List.length_cons]
    have h : ∀ (F : List Fil), (F.filter (fun g => decide (g.name < f.name))).length + (F.filter (fun g => decide (f.name < g.name))).length ≤ F.length := by
      intro F
      induction F with
      | nil => simp
      | cons g F ih =>
        rw [List.filter_cons, List.filter_cons, List.length_cons]
        by_cases h1 : g.name < f.name
        · have h2 : ¬ f.name < g.name := fun h => bl_irrefl _ (bl_trans h1 h)
          simp only [h1, h2, decide_true, decide_false, if_true, Bool.false_eq_true, if_false, List.length_cons]; omega
        · by_cases h2 : f.name < g.name <;> simp only [h1, h2, decide_true, decide_false, if_true, Bool.false_eq_true, if_false, List.length_cons] <;> omega
    have := h F
    omega
  unfold doF
  split
  · exact hs _
  · exact hs _
  · exact hs _
  · exact hs _
  · unfold delF
    have := List.length_filter_le (fun g : Fil => !(g.name == nm)) F
    omega
theorem len_doD (D : Dsk) (kind : Nat) (nm p : List UInt8) (n : Int) : (doD D kind nm p n).1.fs.length ≤ D.fs.length + 1 := by
  unfold doD
  split
  · simp only; omega
  split
  · simp only; omega
  · simp only
    split
    · exact len_doF _ _ _ _ _
    · omega
theorem doF2 (F : List Fil) (nm p : List UInt8) (n : Nat) : doF F 2 nm p n = setF F ⟨nm, p, p.length⟩ := rfl
theorem mayE_name {D : Dsk} {nm : List UInt8} {th : Bool} (hd : D.off = false) (hn : nameB nm = false) : mayE D nm th = 1 := by unfold mayE; rw [if_neg (by rw [hd]; simp), if_pos hn]
theorem readD_get {D : Dsk} (hd : D.off = false) {nm : List UInt8} (hn : ¬ nameB nm = false) : readD D nm = match getF D.fs nm with | some f => (f.b, 0) | none => ([], 81) := by
  unfold readD oldF mayE
  rw [if_neg (show ¬ D.off = true by rw [hd]; simp), if_neg hn]
  cases getF D.fs nm <;> simp
/-- All that is there is sure. -/
def Sure (F : List Fil) : Prop := ∀ f ∈ F, f.sure = f.b.length
theorem modI_one (n : Int) : modI n 1 = 0 := by have := modI_lt n (show 0 < 1 by omega); omega
theorem startF1_sure {f : Fil} (h : f.sure = f.b.length) (i : Nat) (ks : List Int) : startF1 f i ks = f := by
  have e : startS f i ks = f.sure := by
    unfold startS
    rw [show f.b.length - f.sure + 1 = 1 by omega, modI_one]
    split <;> rfl
  unfold startF1
  rw [e, h, List.take_length]
  cases f; simp_all
theorem start_sure {F : List Fil} (h : Sure F) (ks : List Int) : startF F ks = F := by
  unfold startF
  apply List.ext_getElem?
  intro j
  rw [List.getElem?_mapIdx]
  cases hj : F[j]? with
  | none => rfl
  | some f => simp only [Option.map_some]; rw [startF1_sure (h f (List.mem_of_getElem? hj))]
theorem sure_start {F : List Fil} {M : Nat} (h : Good F M) : Sure (startF F []) := by
  intro f hf
  unfold startF at hf
  obtain ⟨i, hi, rfl⟩ := List.mem_mapIdx.1 hf
  have := h.sure _ (List.getElem_mem hi)
  unfold startF1 startS
  simp only [List.length_nil, Nat.not_lt_zero, if_false, Nat.add_zero, List.length_take]
  omega
theorem sure_set {F : List Fil} (h : Sure F) {f : Fil} (hf : f.sure = f.b.length) : Sure (setF F f) := by
  intro g hg
  rcases mem_set.1 hg with rfl | hg
  · exact hf
  · exact h g hg.1
/-- What the law DiskWhole sees. -/
theorem whole_put {D : Dsk} {M : Nat} (hG : Good D.fs M) {nm p : List UInt8} {part : Int} {cut : Bool} {ks : List Int} {D1 D2 D3 : Dsk} {R : Dsk × Nat} (h1 : D1 = startD D []) (h2 : D2 = if cut = true then armD D1 0 part else D1) (hR : R = doD D2 2 nm p 0) (h3 : D3 = startD R.1 ks) :
    (R.2 = 1 ∧ (readD D1 nm).2 = 1) ∨ (R.2 = (if cut = true then 80 else 0) ∧ (readD D3 nm = (p, 0) ∨ cut = true ∧ readD D3 nm = readD D1 nm)) := by
  have hoff1 : D1.off = false := by rw [h1]; rfl
  have hoff2 : D2.off = false := by rw [h2]; split <;> exact hoff1
  have hfs2 : D2.fs = D1.fs := by rw [h2]; split <;> rfl
  have hS : Sure D1.fs := by rw [h1]; exact sure_start hG
  have hG1 : Good D1.fs M := by rw [h1]; exact good_start hG []
  by_cases hn : nameB nm = false
  · left
    refine ⟨?_, ?_⟩
    · rw [hR, doD_err (kind := 2) (th := false) rfl (by rw [mayE_name hoff2 hn]; omega), mayE_name hoff2 hn]
    · unfold readD
      rw [mayE_name hoff1 hn]; rfl
  · right
    have hm : mayE D2 nm false = 0 := by
      unfold mayE
      rw [if_neg (by rw [hoff2]; simp), if_neg hn, if_neg (fun h => by cases h.1)]
    obtain ⟨E, cu, pt, hc⟩ : ∃ E cu pt, cutD D2 = (E, cu, pt) := ⟨_, _, _, rfl⟩
    have hcu : cu = cut := by
      rw [h2] at hc
      cases cut with
      | true =>
        rw [if_pos rfl] at hc
        have : cutD (armD D1 0 part) = ({ (armD D1 0 part) with ar := none, off := true }, true, part) := rfl
        rw [this] at hc; cases hc; rfl
      | false =>
        rw [if_neg (by simp)] at hc
        have har : D1.ar = none := by rw [h1]; rfl
        unfold cutD at hc
        rw [har] at hc; cases hc; rfl
    have hok := doD_ok (kind := 2) (th := false) (n := 0) (p := p) rfl hm (fun h => absurd h.1 (by decide)) hc
    rw [← hR, hcu] at hok
    rw [hok] at h3 ⊢
    refine ⟨rfl, ?_⟩
    have hoff3 : D3.off = false := by rw [h3]; rfl
    have hfs3 : D3.fs = startF (if cut = false ∨ 2 = 0 ∨ modI pt 2 = 1 then doF D2.fs 2 nm (if cut = true ∧ 2 = 0 then p.take (modI pt (p.length + 1)) else p) (0 : Int).toNat else D2.fs) ks := by rw [h3]; rfl
    rw [readD_get hoff3 hn, readD_get hoff1 hn, hfs3]
    by_cases hrun : cut = false ∨ 2 = 0 ∨ modI pt 2 = 1
    · left
      rw [if_pos hrun, if_neg (fun h => absurd h.2 (by decide))]
      rw [doF2, hfs2, start_sure (sure_set hS rfl), getF_set hG1.srt, if_pos rfl]
    · right
      rw [if_neg hrun, hfs2, start_sure hS]
      refine ⟨?_, rfl⟩
      cases cut
      · exact absurd (.inl rfl) hrun
      · rfl
end Go.Proofs.YtjcchjgkkplamaaGreatDoor
