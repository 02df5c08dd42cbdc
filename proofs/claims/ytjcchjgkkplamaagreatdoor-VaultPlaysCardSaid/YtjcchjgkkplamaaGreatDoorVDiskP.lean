/- Laws 20 with a disk: what was saved is loaded. Plain mathematics. -/
import Derived.Test.YtjcchjgkkplamaaGreatDoorVDisk
import Derived.Test.YtjcchjgkkplamaaGreatDoorSureP
import Derived.Test.YtjcchjgkkplamaaGreatDoorRoundP
import Derived.Test.YtjcchjgkkplamaaGreatDoorSame
set_option linter.unusedVariables false
namespace Go.Proofs.YtjcchjgkkplamaaGreatDoor
open Go.RowKit Go.SW
abbrev disk0 : Dsk := ⟨[], false, none⟩
theorem snap_name : ¬ nameB [115, 110, 97, 112] = false := by decide
theorem may_snap {D : Dsk} (h : D.off = false) : mayE D [115, 110, 97, 112] false = 0 := by
  unfold mayE
  rw [if_neg (by rw [h]; simp), if_neg snap_name, if_neg (fun h => by cases h.1)]
theorem put_now {D : Dsk} (h : D.off = false) (ha : D.ar = none) (p : List UInt8) : doD D 2 [115, 110, 97, 112] p 0 = ({ D with fs := setF D.fs ⟨[115, 110, 97, 112], p, p.length⟩ }, 0) := by
  have hc : cutD D = (D, false, 0) := by unfold cutD; rw [ha]
  rw [doD_ok (kind := 2) (th := false) rfl (may_snap h) (fun h => absurd h.1 (by decide)) hc]
  rw [if_pos (.inl rfl), if_neg (fun h => by cases h.1)]
  rfl
theorem sets_sure {p : List UInt8} : Sure (setF [] ⟨[115, 110, 97, 112], p, p.length⟩) := sure_set (fun f hf => by cases hf) rfl
theorem read_put {F : List Fil} (hF : Srt F) (p : List UInt8) {D : Dsk} (h : D.off = false) (e : D.fs = setF F ⟨[115, 110, 97, 112], p, p.length⟩) : readD D [115, 110, 97, 112] = (p, 0) := by
  rw [readD_get h snap_name, e, getF_set hF, if_pos rfl]
theorem load_read {D : Dsk} {i t : Int} {cf dt : List UInt8} (hi : i ≤ 9223372036854775807) (ht : t ≤ 9223372036854775807) (h0 : (bytesV i t cf dt).2 = 0) (h : readD D [115, 110, 97, 112] = ((bytesV i t cf dt).1, 0)) : loadD D = (⟨i, t, cf, dt⟩, true, 0) := by
  rw [load_ok (by rw [h]), h, readV_bytesV hi ht h0]; rfl
theorem bytes_err {i t : Int} {cf dt : List UInt8} : (bytesV i t cf dt).2 ≤ 2 := by
  unfold bytesV
  split
  · simp
  split
  · simp
  split
  · simp
  split <;> simp
section
variable {i t i2 t2 : Int} {cf dt cf2 dt2 : List UInt8}
/-- What was not saved is not there. -/
theorem save_not (h : (saveD disk0 i t cf dt).2 ≠ 0) : loadD (saveD disk0 i t cf dt).1 = (Snp.none, false, 0) := by
  by_cases hb : (bytesV i t cf dt).2 = 0
  · rw [save_ok hb, put_now rfl rfl] at h
    exact absurd rfl h
  · rw [save_err hb]
    exact load_no (by rw [readD_get rfl snap_name]; rfl)
theorem save_fs (h : (saveD disk0 i t cf dt).2 = 0) : (bytesV i t cf dt).2 = 0 ∧ (saveD disk0 i t cf dt).1 = { disk0 with fs := setF [] ⟨[115, 110, 97, 112], (bytesV i t cf dt).1, (bytesV i t cf dt).1.length⟩ } := by
  by_cases hb : (bytesV i t cf dt).2 = 0
  · refine ⟨hb, ?_⟩
    rw [save_ok hb, put_now rfl rfl]
  · rw [save_err hb] at h
    exact absurd h hb
/-- What was saved is loaded, with the power gone behind it. -/
theorem save_load (hi : i ≤ 9223372036854775807) (ht : t ≤ 9223372036854775807) (h : (saveD disk0 i t cf dt).2 = 0) (ks : List Int) : loadD (startD (saveD disk0 i t cf dt).1 ks) = (⟨i, t, cf, dt⟩, true, 0) := by
  obtain ⟨hb, e⟩ := save_fs h
  refine load_read hi ht hb ?_
  refine read_put (F := []) List.Pairwise.nil _ rfl ?_
  rw [e]
  exact start_sure sets_sure ks
theorem start_twice {F : List Fil} (h : Sure F) : (⟨F, false, none⟩ : Dsk) = startD ⟨F, false, none⟩ [] := by
  unfold startD
  rw [start_sure h]
/-- Of a Save that was cut off the older one or that. -/
theorem save_cut (hi : i ≤ 9223372036854775807) (ht : t ≤ 9223372036854775807) (hi2 : i2 ≤ 9223372036854775807) (ht2 : t2 ≤ 9223372036854775807) (h : (saveD disk0 i t cf dt).2 = 0) (ks : List Int) (part : Int) {D1 D2 : Dsk} {R : Dsk × Nat} (h1 : D1 = startD (saveD disk0 i t cf dt).1 ks) (h2 : D2 = armD D1 0 part) (hR : R = saveD D2 i2 t2 cf2 dt2) :
    R.2 ≠ 0 ∧ (R.2 = 80 → loadD (startD R.1 ks) = (⟨i, t, cf, dt⟩, true, 0) ∨ loadD (startD R.1 ks) = (⟨i2, t2, cf2, dt2⟩, true, 0)) := by
  by_cases hb : (bytesV i2 t2 cf2 dt2).2 = 0
  · obtain ⟨hb0, e⟩ := save_fs h
    have hS : Sure (setF [] ⟨[115, 110, 97, 112], (bytesV i t cf dt).1, (bytesV i t cf dt).1.length⟩) := sets_sure
    have e1 : D1 = ⟨setF [] ⟨[115, 110, 97, 112], (bytesV i t cf dt).1, (bytesV i t cf dt).1.length⟩, false, none⟩ := by
      rw [h1, e]
      unfold startD
      rw [start_sure hS]
    have hG : Good D1.fs (bytesV i t cf dt).1.length := by
      rw [e1]
      exact good_set (good_nil _) (Nat.le_refl _) (Nat.le_refl _) (Nat.le_refl _) (by simp)
    have e2 : D1 = startD D1 [] := by rw [e1]; exact start_twice hS
    have hR2 : R = doD D2 2 [115, 110, 97, 112] (bytesV i2 t2 cf2 dt2).1 0 := by rw [hR, save_ok hb]
    have hw := whole_put (nm := [115, 110, 97, 112]) (part := part) (cut := true) (ks := ks) hG e2 (by rw [if_pos rfl]; exact h2) hR2 rfl
    rcases hw with ⟨h3, h4⟩ | ⟨h3, h4⟩
    · have hm : mayE D2 [115, 110, 97, 112] false = 0 := may_snap (by rw [h2, e1]; rfl)
      obtain ⟨E, cu, pt, hc⟩ : ∃ E cu pt, cutD D2 = (E, cu, pt) := ⟨_, _, _, rfl⟩
      rw [hR2, doD_ok (kind := 2) (th := false) rfl hm (fun h => absurd h.1 (by decide)) hc] at h3
      simp only at h3
      split at h3 <;> omega
    · rw [if_pos rfl] at h3
      refine ⟨by omega, fun _ => ?_⟩
      rcases h4 with h4 | ⟨_, h4⟩
      · exact .inr (load_read hi2 ht2 hb h4)
      · refine .inl (load_read hi ht hb0 ?_)
        rw [h4]
        exact read_put (F := []) List.Pairwise.nil _ (by rw [e1]) (by rw [e1])
  · have e3 : R = (D2, (bytesV i2 t2 cf2 dt2).2) := by rw [hR, save_err hb]
    have h9 := bytes_err (i := i2) (t := t2) (cf := cf2) (dt := dt2)
    rw [e3]
    exact ⟨hb, fun h8 => by simp only at h8; omega⟩
end
theorem good_put {D : Dsk} {M : Nat} (h : Good D.fs M) (nm p : List UInt8) (n : Int) (hp : p.length ≤ M) : Good (doD D 2 nm p n).1.fs M := by
  unfold doD
  split
  · exact h
  rename_i hm
  have hn := may_short (Decidable.not_not.1 hm)
  split
  · exact h
  simp only
  split
  · rw [if_neg (fun h => absurd h.2 (by decide)), doF2]
    exact good_set h (Nat.le_refl _) (Nat.le_refl _) hp hn
  · exact h
theorem good_rem {D : Dsk} {M : Nat} (h : Good D.fs M) (nm p : List UInt8) (n : Int) (hp : p.length = 0) : Good (doD D 4 nm p n).1.fs M := (good_doD h 4 nm p n).mono (by omega)
theorem good_save {D : Dsk} {M : Nat} (h : Good D.fs M) (hM : 1048584 ≤ M) (i t : Int) (cf dt : List UInt8) : Good (saveD D i t cf dt).1.fs M := by
  unfold saveD
  split
  · exact h
  · exact good_put h _ _ _ (Nat.le_trans (bytesV_length_le _ _ _ _) hM)
theorem len_save {D : Dsk} (i t : Int) (cf dt : List UInt8) : (saveD D i t cf dt).1.fs.length ≤ D.fs.length + 1 := by
  unfold saveD
  split
  · simp only; omega
  · exact len_doD _ _ _ _ _
theorem ar_save {D : Dsk} (h : ArOk D.ar) (i t : Int) (cf dt : List UInt8) : ArOk (saveD D i t cf dt).1.ar := by
  unfold saveD
  split
  · exact h
  · exact arOk_do h _ _ _ _
theorem cut_pick {i t i2 t2 : Int} {cf dt cf2 dt2 : List UInt8} {X : Snp × Bool × Nat} (h : X = (⟨i, t, cf, dt⟩, true, 0) ∨ X = (⟨i2, t2, cf2, dt2⟩, true, 0)) : ∃ i3 t3 cf3 dt3, X = (⟨i3, t3, cf3, dt3⟩, true, 0) ∧ (sameS i3 t3 cf3 dt3 i t cf dt = true ∨ sameS i3 t3 cf3 dt3 i2 t2 cf2 dt2 = true) := by
  rcases h with h | h
  · exact ⟨_, _, _, _, h, .inl (sameS_refl _ _ _ _)⟩
  · exact ⟨_, _, _, _, h, .inr (sameS_refl _ _ _ _)⟩
end Go.Proofs.YtjcchjgkkplamaaGreatDoor
