/- Layer 18 (disk): what holds of a disk's state, the program's and the document's. Plain mathematics. -/
import Derived.Test.YtjcchjgkkplamaaGreatDoorSureP
import Derived.Test.YtjcchjgkkplamaaGreatDoorRDisk2
set_option linter.unusedVariables false
namespace Go.Proofs.YtjcchjgkkplamaaGreatDoor
open Go.RowKit Go.SW
theorem part_do {D : Dsk} {part : Int} (h : PartOk D.ar part) (kind : Nat) (nm p : List UInt8) (n : Int) : PartOk (doD D kind nm p n).1.ar part := by
  unfold doD
  split
  · exact h
  split
  · exact h
  · exact part_cut h
/-- What holds between a disk's state, the program's and the document's. -/
structure Inv (D : Dsk) (es : List PE) (L : FV) (part : Int) (M N : Nat) : Prop where
  rep : Rep es D.fs
  fst : L.map (·.1) = D.fs
  ar : ArOk D.ar
  part : PartOk D.ar part
  good : Good D.fs M
  len : D.fs.length ≤ N
theorem Inv.llen {D : Dsk} {es : List PE} {L : FV} {part : Int} {M N : Nat} (h : Inv D es L part M N) : L.length ≤ N := by
  have := congrArg List.length h.fst
  have h2 := h.len
  simp only [List.length_map] at this
  omega
theorem inv_do {D : Dsk} {es es' : List PE} {L L' : FV} {part : Int} {M N : Nat} (h : Inv D es L part M N) {kind : Nat} {nm b : List UInt8} {n : Int} {R : Dsk × Nat} (hr : doD D kind nm b n = R) (h1 : Rep es' R.1.fs) (h2 : L'.map (·.1) = R.1.fs) : Inv R.1 es' L' part (M + b.length) (N + 1) := by
  subst hr
  exact ⟨h1, h2, arOk_do h.ar _ _ _ _, part_do h.part _ _ _ _, good_doD h.good _ _ _ _, Nat.le_trans (len_doD _ _ _ _ _) (by have := h.len; omega)⟩
theorem inv_same {D : Dsk} {es : List PE} {L : FV} {part : Int} {M M' N N' : Nat} (h : Inv D es L part M N) (hm : M ≤ M') (hn : N ≤ N') : Inv D es L part M' N' :=
  ⟨h.rep, h.fst, h.ar, h.part, h.good.mono hm, Nat.le_trans h.len hn⟩
theorem inv_arm {D : Dsk} {es : List PE} {L : FV} {part : Int} {M N : Nat} (h : Inv D es L part M N) (a p : Int) (ha : a ≤ 9223372036854775807) : Inv (armD D a p) es L p M N :=
  ⟨h.rep, h.fst, arOk_arm a p ha D, part_arm D a p, h.good, h.len⟩
theorem inv_start {D : Dsk} {es es' : List PE} {L L' : FV} {part : Int} {M N : Nat} (h : Inv D es L part M N) (ks : List Int) (h1 : Rep es' (startD D ks).fs) (h2 : L'.map (·.1) = (startD D ks).fs) : Inv (startD D ks) es' L' part M N :=
  ⟨h1, h2, (fun a p e => by cases e), (fun a p e => by cases e), good_start h.good ks, by show (startF D.fs ks).length ≤ N; unfold startF; rw [List.length_mapIdx]; exact h.len⟩
/-! ### A Put lasts wholly, or not at all -/
theorem inv_new (N : Nat) : Inv ⟨[], false, none⟩ [] [] 0 N 0 :=
  ⟨⟨List.Pairwise.nil, List.Perm.refl _⟩, rfl, (fun a p e => by cases e), (fun a p e => by cases e), good_nil N, Nat.le_refl _⟩
end Go.Proofs.YtjcchjgkkplamaaGreatDoor
