/- Layer 18 (disk), the document's own: find, mod, act, may, set, unset, Arm: what they answer. -/
import Derived.Test.YtjcchjgkkplamaaGreatDoorDisk3
set_option maxRecDepth 100000
set_option maxHeartbeats 2000000
set_option linter.unusedVariables false
set_option linter.unusedSimpArgs false
namespace Go.Proofs.YtjcchjgkkplamaaGreatDoor
open Go.RowKit Go.SW
abbrev FV := List (Fil × Value)
def actsI : Option (Nat × Int) → Int
  | none => -1
  | some (a, _) => (a : Int)
def PartOk (ar : Option (Nat × Int)) (part : Int) : Prop := ∀ a p, ar = some (a, p) → part = p
def rhdO (xb : Nat) (rv : Value) (off : Bool) (acts part : Int) : Own := .blk xb 55 [rv, .bool off, .int .i64 acts, .int .i64 part]
def fndI (L : FV) (nm : List UInt8) : Nat := L.findIdx fun q => q.1.name == nm
def fndZ (L : FV) (nm : List UInt8) : Int := if fndI L nm < L.length then ((fndI L nm : Nat) : Int) else -1
theorem fnd_at {L : FV} {nm : List UInt8} (h : fndI L nm < L.length) : ∃ q, L[fndI L nm]? = some q ∧ q.1.name = nm := by
  refine ⟨L[fndI L nm], List.getElem?_eq_getElem h, ?_⟩
  have h2 : (L[fndI L nm].1.name == nm) = true := List.findIdx_getElem (xs := L) (p := fun q : Fil × Value => q.1.name == nm) (w := h)
  exact eq_of_beq h2
theorem fnd_none {L : FV} {nm : List UInt8} (h : ¬ fndI L nm < L.length) : ∀ q ∈ L, q.1.name ≠ nm := by
  have h1 : L.findIdx (fun q => q.1.name == nm) = L.length := Nat.le_antisymm List.findIdx_le_length (by unfold fndI at h; omega)
  have := List.findIdx_eq_length.1 h1
  intro q hq
  simpa using this q hq
theorem fnd_is {L : FV} {nm : List UInt8} {i : Nat} {q : Fil × Value} (hi : L[i]? = some q) (hq : q.1.name = nm) (hb : ∀ j : Nat, j < i → ∀ r, L[j]? = some r → r.1.name ≠ nm) : fndI L nm = i := by
  have hil := (List.getElem?_eq_some_iff.1 hi).1
  have hie := (List.getElem?_eq_some_iff.1 hi).2
  unfold fndI
  refine (List.findIdx_eq hil).2 ⟨by rw [hie]; simpa using hq, fun j hj => ?_⟩
  have := hb j hj L[j] (List.getElem?_eq_getElem (by omega))
  simpa using this
theorem fnd_no {L : FV} {nm : List UInt8} (hb : ∀ j : Nat, j < L.length → ∀ r, L[j]? = some r → r.1.name ≠ nm) : fndZ L nm = -1 := by
  unfold fndZ
  rw [if_neg fun h => ?_]
  obtain ⟨q, h1, h2⟩ := fnd_at h
  exact hb _ h q h1 h2
theorem fndZ_is {L : FV} {nm : List UInt8} {i : Nat} {q : Fil × Value} (hi : L[i]? = some q) (hq : q.1.name = nm) (hb : ∀ j : Nat, j < i → ∀ r, L[j]? = some r → r.1.name ≠ nm) : fndZ L nm = ((i : Nat) : Int) := by
  unfold fndZ
  rw [fnd_is hi hq hb, if_pos (List.getElem?_eq_some_iff.1 hi).1]
theorem fnd_get {L : FV} {F : List Fil} (hF : L.map (·.1) = F) (nm : List UInt8) : (L[fndI L nm]?).map (·.1) = getF F nm := by
  subst hF
  unfold getF fndI
  induction L with
  | nil => rfl
  | cons q L ih =>
    rw [List.findIdx_cons, List.map_cons, List.find?_cons]
    cases h : q.1.name == nm
    · simpa using ih
    · rfl
theorem all_nx {p : Nat → Prop} {i : Nat} (h : ∀ j : Nat, j < i → p j) (hi : p i) : ∀ j : Nat, j < i + 1 → p j := fun j hj => (Nat.lt_succ_iff_lt_or_eq.1 hj).elim (h j) (fun e => e ▸ hi)
theorem rmay_eq {D : Dsk} {L : FV} (hF : L.map (·.1) = D.fs) (nm : List UInt8) (there : Bool) : mayE D nm there = if D.off = true then 80 else if nameB nm = false then 1 else if there = true ∧ ¬ fndI L nm < L.length then 81 else 0 := by
  unfold mayE
  have h := fnd_get hF nm
  by_cases hlt : fndI L nm < L.length
  · rw [List.getElem?_eq_getElem hlt] at h
    rw [← h]; simp [hlt]
  · rw [List.getElem?_eq_none (by omega)] at h
    rw [← h]; simp [hlt]
theorem rmod_eq (n : Int) (k : Nat) (hk : 0 < k) : (if n.tmod (k : Int) < 0 then n.tmod (k : Int) + (k : Int) else n.tmod (k : Int)) = ((modI n k : Nat) : Int) := by
  unfold modI
  have h1 : 0 ≤ n % (k : Int) := Int.emod_nonneg n (by omega)
  have h2 : n % (k : Int) < k := Int.emod_lt_of_pos n (by omega)
  rw [Int.toNat_of_nonneg h1]
  have a := Int.tmod_lt_of_pos n (show (0 : Int) < k by omega)
  have b := Int.lt_tmod_of_pos n (show (0 : Int) < k by omega)
  have e1 := Int.emod_add_mul_ediv n k
  have e2 := Int.tmod_add_mul_tdiv n k
  have h3 : (n.tmod (k : Int)) % (k : Int) = n % (k : Int) := by
    rw [Int.tmod_def, show n - ↑k * n.tdiv ↑k = n + ↑k * (-(n.tdiv ↑k)) by rw [Int.mul_neg]; omega, Int.add_mul_emod_self_left]
  rw [← h3]
  split
  · have h4 : (n.tmod (k : Int)) % (k : Int) = n.tmod k + k := by
      rw [← Int.add_emod_right, Int.emod_eq_of_lt (by omega) (by omega)]
    rw [h4]
  · rw [Int.emod_eq_of_lt (by omega) a]

theorem RFind_ct (xb : Nat) (rv : Value) (L : FV) (nm : List UInt8) (w : World) (h0 : w.cell? ⟨xb, 0, none⟩ = some rv) (hR : Row w.cell? rv 3 L.length (rowC filC L)) :
    Fun Tryz.prog 42 [.pointer (some ⟨xb, 0, none⟩), .string (bs nm)] w fun v w' => v = .int .i64 (fndZ L nm) ∧ Fresh w w' [] := by
  obtain ⟨Ar, cr, rfl, hR1, hR2⟩ := hR.form
  simp only [maxLen] at hR2
  refine fun_of_sw Tryz.func42 rfl 26 rfl rfl ?_
  have hH := Hp.start w
  refine sw_sr ?_
  refine gl_ops 1 [(0, .pointer (some ⟨xb, 0, none⟩)), (1, .string (bs nm))] (by kernel_rfl) ?_
  refine gl_dn rfl ?_
  refine sw_seq ?_
  refine sw_sr ?_
  refine gl_ops 1 [(0, .pointer (some ⟨xb, 0, none⟩)), (1, .string (bs nm)), (5, .int .i64 0)] (by kernel_rfl) ?_
  refine gl_dn rfl ?_
  refine sw_block ?_
  refine sw_loop (γ := Nat) (fun i => [(0, .pointer (some ⟨xb, 0, none⟩)), (1, .string (bs nm)), (5, Ni i)]) (fun i w_ => (i ≤ L.length) ∧ (∀ j : Nat, j < i → ∀ r, L[j]? = some r → r.1.name ≠ nm) ∧ Hp w w_ (w.cell?) [] []) (fun i => L.length - i) (0) (Sub.of_eq (by kernel_rfl)) ?_ ?_
  · exact ⟨by omega, fun j hj => absurd hj (by omega), hH⟩
  clear hH
  rintro i w1 ⟨hi, hall, hH⟩
  refine sw_keep [(0, .pointer (some ⟨xb, 0, none⟩)), (1, .string (bs nm)), (5, Ni i)] (by kernel_rfl) ?_
  refine sw_seq ?_
  refine sw_sr ?_
  refine gl_ops 4 [(0, .pointer (some ⟨xb, 0, none⟩)), (1, .string (bs nm)), (5, Ni i), (6, Ni i), (9, .pointer (some ⟨xb, 0, none⟩))] (by kernel_rfl) ?_
  refine gl_q rfl rfl rfl (rd_load (by kernel_rfl) rfl (hH.zin _ _ h0)) ?_
  refine gl_q rfl rfl rfl (rd_len (e := 93) (by kernel_rfl) rfl) ?_
  refine gl_ops 1 [(0, .pointer (some ⟨xb, 0, none⟩)), (1, .string (bs nm)), (5, Ni i), (12, .bool (decide (((i : Nat) : Int) < ((L.length : Nat) : Int))))] (by kernel_rfl) ?_
  refine gl_dn rfl ?_
  refine sw_cond rfl rfl (fun hc1 => ?_) (fun hc1 => ?_)
  ·
    try simp only [decide_eq_true_eq] at hc1
    refine sw_skip ?_
    refine sw_next ?_
    refine sw_seq ?_
    refine sw_block ?_
    obtain ⟨q, hq⟩ : ∃ q, L[i]? = some q := ⟨_, List.getElem?_eq_getElem (by omega)⟩
    refine sw_sr ?_
    refine gl_ops 3 [(0, .pointer (some ⟨xb, 0, none⟩)), (1, .string (bs nm)), (5, Ni i), (17, .pointer (some ⟨xb, 0, none⟩))] (by kernel_rfl) ?_
    refine gl_q rfl rfl rfl (rd_load (by kernel_rfl) rfl (hH.zin _ _ h0)) ?_
    obtain ⟨p2, hi4, hp3⟩ := hR.idx i (by omega) (by decide)
    refine gl_ops 1 [(0, .pointer (some ⟨xb, 0, none⟩)), (1, .string (bs nm)), (5, Ni i), (18, .slice Ar L.length cr), (19, Ni i)] (by kernel_rfl) ?_
    refine gl_q rfl rfl rfl (rd_idx (e := 93) (m := 3) (by kernel_rfl) (by kernel_rfl) rfl rfl hi4) ?_
    refine gl_ops 1 [(0, .pointer (some ⟨xb, 0, none⟩)), (1, .string (bs nm)), (5, Ni i), (21, .pointer (some p2))] (by kernel_rfl) ?_
    refine gl_q rfl rfl rfl (rd_load (by kernel_rfl) rfl (hH.zin _ _ (hp3 0 _ (by decide) (rowC_at filC_len hq 0 (by decide) rfl)))) ?_
    refine gl_ops 1 [(0, .pointer (some ⟨xb, 0, none⟩)), (1, .string (bs nm)), (5, Ni i), (22, .string (bs q.1.name)), (23, .string (bs nm))] (by kernel_rfl) ?_
    refine gl_q rfl rfl rfl (rd_seql (by kernel_rfl) rfl rfl) ?_
    refine gl_dn rfl ?_
    refine sw_cond rfl rfl (fun hc2 => ?_) (fun hc2 => ?_)
    ·
      try simp only [beq_iff_eq] at hc2
      have heq := hc2
      refine sw_sr ?_
      refine gl_ops 2 [(4, Ni i)] (by kernel_rfl) ?_
      refine gl_dn rfl ?_
      refine sw_ret ?_
      refine bkR ?_
      refine thR ?_
      refine thR ?_
      refine bkR ?_
      refine thR ?_
      refine ret1 rfl rfl  ?_
      exact ⟨by rw [fndZ_is hq heq hall], hH.fresh⟩
    try simp only [beq_eq_false_iff_ne, ne_eq] at hc2
    have hne := hc2
    refine sw_skip ?_
    refine bkN ?_
    refine sw_next ?_
    refine sw_region ?_
    refine gl_ops 2 [(0, .pointer (some ⟨xb, 0, none⟩)), (1, .string (bs nm)), (14, .int .i64 (IntKind.i64.wrap (((i : Nat) : Int) + 1)))] (by kernel_rfl) ?_
    refine gl_cv 14 (Ni (i + 1)) (cv_i64 (by omega)) rfl ?_
    refine gl_ops 1 [(0, .pointer (some ⟨xb, 0, none⟩)), (1, .string (bs nm)), (5, Ni (i + 1))] (by kernel_rfl) ?_
    refine gl_done rfl ?_
    refine rnd_end (g := (i)) (i + 1) (by kernel_rfl) ?_ ?_
    · exact ⟨by omega, all_nx hall (fun r hr => by rw [hq] at hr; cases hr; exact hne), hH⟩
    · show L.length - (i + 1) < L.length - i; omega
  try simp only [decide_eq_false_iff_not, Int.not_lt, Int.not_le] at hc1
  refine sw_exit ?_
  refine thX ?_
  refine thX ?_
  refine bkH ?_
  refine sw_next ?_
  refine sw_sr ?_
  refine gl_ops 1 [(4, .int .i64 (-1))] (by kernel_rfl) ?_
  refine gl_dn rfl ?_
  refine sw_ret ?_
  refine ret1 rfl rfl  ?_
  exact ⟨by rw [fnd_no (fun j hj => hall j (by omega))], hH.fresh⟩
theorem RMod_ct (n : Int) (k : Nat) (w : World) (hk : 0 < k) (hk2 : k ≤ 2305843009213693951) :
    Fun Tryz.prog 36 [.int .i64 n, .int .i64 ((k : Nat) : Int)] w fun v w' => v = .int .i64 ((modI n k : Nat) : Int) ∧ Fresh w w' [] := by
  have h1 := Int.tmod_lt_of_pos n (show (0 : Int) < k by omega)
  have h2 := Int.lt_tmod_of_pos n (show (0 : Int) < k by omega)
  have h3 := rmod_eq n k hk
  refine fun_of_sw Tryz.func36 rfl 15 rfl rfl ?_
  have hH := Hp.start w
  refine sw_sr ?_
  refine gl_ops 1 [(0, .int .i64 n), (1, Ni k)] (by kernel_rfl) ?_
  refine gl_dn rfl ?_
  refine sw_sr ?_
  refine gl_ops 2 [(1, Ni k), (6, .int .i64 n), (7, Ni k)] (by kernel_rfl) ?_
  refine gl_q rfl rfl rfl (rd_remI (a := n) (b := k) rfl rfl hk) ?_
  refine gl_ops 1 [(1, Ni k), (5, .int .i64 (Int.tmod n ((k : Nat) : Int)))] (by kernel_rfl) ?_
  refine gl_dn rfl ?_
  refine sw_seq ?_
  refine sw_sr ?_
  refine gl_ops 2 [(1, Ni k), (5, .int .i64 (Int.tmod n ((k : Nat) : Int))), (10, .bool (decide ((Int.tmod n ((k : Nat) : Int)) < (0 : Int))))] (by kernel_rfl) ?_
  refine gl_dn rfl ?_
  refine sw_cond rfl rfl (fun hc1 => ?_) (fun hc1 => ?_)
  ·
    try simp only [decide_eq_true_eq] at hc1
    refine sw_region ?_
    refine gl_ops 3 [(13, .int .i64 (IntKind.i64.wrap ((Int.tmod n ((k : Nat) : Int)) + ((k : Nat) : Int))))] (by kernel_rfl) ?_
    refine gl_cv 13 (.int .i64 ((Int.tmod n ((k : Nat) : Int)) + ((k : Nat) : Int))) (cv_i64 (by omega)) rfl ?_
    refine gl_ops 1 [(5, .int .i64 ((Int.tmod n ((k : Nat) : Int)) + ((k : Nat) : Int)))] (by kernel_rfl) ?_
    refine gl_done rfl ?_
    refine sw_next ?_
    refine sw_sr ?_
    refine gl_ops 2 [(4, .int .i64 ((Int.tmod n ((k : Nat) : Int)) + ((k : Nat) : Int)))] (by kernel_rfl) ?_
    refine gl_dn rfl ?_
    refine sw_ret ?_
    refine ret1 rfl rfl  ?_
    exact ⟨by rw [← h3]; first | rw [if_pos (by omega)] | rw [if_neg (by omega)], hH.fresh⟩
  try simp only [decide_eq_false_iff_not, Int.not_lt, Int.not_le] at hc1
  refine sw_skip ?_
  refine sw_next ?_
  refine sw_sr ?_
  refine gl_ops 2 [(4, .int .i64 (Int.tmod n ((k : Nat) : Int)))] (by kernel_rfl) ?_
  refine gl_dn rfl ?_
  refine sw_ret ?_
  refine ret1 rfl rfl  ?_
  exact ⟨by rw [← h3]; first | rw [if_pos (by omega)] | rw [if_neg (by omega)], hH.fresh⟩
theorem RAct0_ct (xb : Nat) (rv : Value) (fs : List Fil) (pw : Bool) (part : Int) (w : World) (hM : Mine w [rhdO xb rv pw (actsI none) part]) :
    Fun Tryz.prog 43 [.pointer (some ⟨xb, 0, none⟩)] w fun v w' => v = .bool (cutD (⟨fs, pw, none⟩ : Dsk)).2.1 ∧ Turn w w' [rhdO xb rv pw (actsI none) part] [rhdO xb rv ((cutD (⟨fs, pw, none⟩ : Dsk)).1.off) (actsI ((cutD (⟨fs, pw, none⟩ : Dsk)).1.ar)) part] := by
  refine fun_of_sw Tryz.func43 rfl 26 rfl rfl ?_
  have hH := Hp.start_mine hM
  replace hH : Hp w w _ _ [.blk xb 55 [rv, .bool pw, .int .i64 (-1), .int .i64 part]] := hH
  refine sw_sr ?_
  refine gl_ops 1 [(0, Pp xb 0)] (by kernel_rfl) ?_
  refine gl_dn rfl ?_
  refine sw_seq ?_
  refine sw_sr ?_
  refine gl_ops 3 [(0, Pp xb 0), (5, Pp xb 2)] (by kernel_rfl) ?_
  refine gl_q rfl rfl rfl (rd_loadK 0 (by kernel_rfl) hH rfl rfl rfl) ?_
  refine gl_ops 1 [(0, Pp xb 0), (7, .bool (decide ((-1) < (0 : Int))))] (by kernel_rfl) ?_
  refine gl_dn rfl ?_
  refine sw_cond rfl rfl (fun hc1 => ?_) (fun hc1 => ?_)
  rotate_left
  · exact absurd hc1 (by simp only [decide_eq_false_iff_not, beq_eq_false_iff_ne, bne_eq_false_iff_eq, ne_eq, Decidable.not_not, Int.not_lt, Int.not_le]; omega)
  clear hc1
  refine sw_sr ?_
  refine gl_ops 1 [(2, .bool false)] (by kernel_rfl) ?_
  refine gl_dn rfl ?_
  refine sw_ret ?_
  refine thR ?_
  refine ret1 rfl rfl  ?_
  exact ⟨rfl, hH.turned⟩
theorem RAct1_ct (xb : Nat) (rv : Value) (fs : List Fil) (pw : Bool) (p : Int) (part : Int) (w : World) (hM : Mine w [rhdO xb rv pw (actsI (some (0, p))) part]) :
    Fun Tryz.prog 43 [.pointer (some ⟨xb, 0, none⟩)] w fun v w' => v = .bool (cutD (⟨fs, pw, some (0, p)⟩ : Dsk)).2.1 ∧ Turn w w' [rhdO xb rv pw (actsI (some (0, p))) part] [rhdO xb rv ((cutD (⟨fs, pw, some (0, p)⟩ : Dsk)).1.off) (actsI ((cutD (⟨fs, pw, some (0, p)⟩ : Dsk)).1.ar)) part] := by
  refine fun_of_sw Tryz.func43 rfl 26 rfl rfl ?_
  have hH := Hp.start_mine hM
  replace hH : Hp w w _ _ [.blk xb 55 [rv, .bool pw, .int .i64 0, .int .i64 part]] := hH
  refine sw_sr ?_
  refine gl_ops 1 [(0, Pp xb 0)] (by kernel_rfl) ?_
  refine gl_dn rfl ?_
  refine sw_seq ?_
  refine sw_sr ?_
  refine gl_ops 3 [(0, Pp xb 0), (5, Pp xb 2)] (by kernel_rfl) ?_
  refine gl_q rfl rfl rfl (rd_loadK 0 (by kernel_rfl) hH rfl rfl rfl) ?_
  refine gl_ops 1 [(0, Pp xb 0), (7, .bool false)] (by kernel_rfl) ?_
  refine gl_dn rfl ?_
  refine sw_false rfl rfl ?_
  refine sw_skip ?_
  refine sw_next ?_
  refine sw_seq ?_
  refine sw_sr ?_
  refine gl_ops 3 [(0, Pp xb 0), (10, Pp xb 2)] (by kernel_rfl) ?_
  refine gl_q rfl rfl rfl (rd_loadK 0 (by kernel_rfl) hH rfl rfl rfl) ?_
  refine gl_ops 1 [(0, Pp xb 0), (12, .bool false)] (by kernel_rfl) ?_
  refine gl_dn rfl ?_
  refine sw_false rfl rfl ?_
  refine sw_skip ?_
  refine sw_next ?_
  refine sw_sr ?_
  refine gl_ops 3 [(0, Pp xb 0), (22, Pp xb 2)] (by kernel_rfl) ?_
  refine gl_st (st_storeK (v := .int .i64 (-1)) 0 rfl rfl rfl hH rfl rfl rfl (by kernel_rfl) rfl (by simp) ?_)
  clear hH; intro w1 hH
  refine gl_dn rfl ?_
  refine sw_sr ?_
  refine gl_ops 3 [(25, Pp xb 1)] (by kernel_rfl) ?_
  refine gl_st (st_storeK (v := .bool true) 0 rfl rfl rfl hH rfl rfl rfl (by kernel_rfl) rfl (by simp) ?_)
  clear hH; intro w2 hH
  refine gl_dn rfl ?_
  refine sw_sr ?_
  refine gl_ops 1 [(2, .bool true)] (by kernel_rfl) ?_
  refine gl_dn rfl ?_
  refine sw_ret ?_
  refine ret1 rfl rfl  ?_
  exact ⟨rfl, hH.turned⟩
theorem RAct2_ct (xb : Nat) (rv : Value) (fs : List Fil) (pw : Bool) (a : Nat) (p : Int) (part : Int) (w : World) (hM : Mine w [rhdO xb rv pw (actsI (some (a + 1, p))) part]) (ha : a + 1 ≤ 9223372036854775807) :
    Fun Tryz.prog 43 [.pointer (some ⟨xb, 0, none⟩)] w fun v w' => v = .bool (cutD (⟨fs, pw, some (a + 1, p)⟩ : Dsk)).2.1 ∧ Turn w w' [rhdO xb rv pw (actsI (some (a + 1, p))) part] [rhdO xb rv ((cutD (⟨fs, pw, some (a + 1, p)⟩ : Dsk)).1.off) (actsI ((cutD (⟨fs, pw, some (a + 1, p)⟩ : Dsk)).1.ar)) part] := by
  refine fun_of_sw Tryz.func43 rfl 26 rfl rfl ?_
  have hH := Hp.start_mine hM
  replace hH : Hp w w _ _ [.blk xb 55 [rv, .bool pw, Ni (a + 1), .int .i64 part]] := hH
  refine sw_sr ?_
  refine gl_ops 1 [(0, Pp xb 0)] (by kernel_rfl) ?_
  refine gl_dn rfl ?_
  refine sw_seq ?_
  refine sw_sr ?_
  refine gl_ops 3 [(0, Pp xb 0), (5, Pp xb 2)] (by kernel_rfl) ?_
  refine gl_q rfl rfl rfl (rd_loadK 0 (by kernel_rfl) hH rfl rfl rfl) ?_
  refine gl_ops 1 [(0, Pp xb 0), (7, .bool (decide (((a + 1 : Nat) : Int) < (0 : Int))))] (by kernel_rfl) ?_
  refine gl_dn rfl ?_
  refine sw_cond rfl rfl (fun hc1 => ?_) (fun hc1 => ?_)
  · exact absurd hc1 (by simp only [decide_eq_true_eq, beq_iff_eq, bne_iff_ne, ne_eq]; omega)
  clear hc1
  refine sw_skip ?_
  refine sw_next ?_
  refine sw_seq ?_
  refine sw_sr ?_
  refine gl_ops 3 [(0, Pp xb 0), (10, Pp xb 2)] (by kernel_rfl) ?_
  refine gl_q rfl rfl rfl (rd_loadK 0 (by kernel_rfl) hH rfl rfl rfl) ?_
  refine gl_ops 1 [(0, Pp xb 0), (12, .bool (decide (((a + 1 : Nat) : Int) > (0 : Int))))] (by kernel_rfl) ?_
  refine gl_dn rfl ?_
  refine sw_cond rfl rfl (fun hc2 => ?_) (fun hc2 => ?_)
  rotate_left
  · exact absurd hc2 (by simp only [decide_eq_false_iff_not, beq_eq_false_iff_ne, bne_eq_false_iff_eq, ne_eq, Decidable.not_not, Int.not_lt, Int.not_le]; omega)
  clear hc2
  refine sw_sr ?_
  refine gl_ops 3 [(13, Pp xb 0), (15, Pp xb 2)] (by kernel_rfl) ?_
  refine gl_q rfl rfl rfl (rd_loadK 0 (by kernel_rfl) hH rfl rfl rfl) ?_
  refine gl_ops 1 [(13, Pp xb 0), (17, .int .i64 (IntKind.i64.wrap (((a + 1 : Nat) : Int) - 1)))] (by kernel_rfl) ?_
  refine gl_cv 17 (Ni a) (cv_i64 (by omega)) rfl ?_
  refine gl_ops 2 [(17, Ni a), (19, Pp xb 2)] (by kernel_rfl) ?_
  refine gl_st (st_storeK (v := Ni a) 0 rfl rfl rfl hH rfl rfl rfl (by kernel_rfl) rfl (by simp) ?_)
  clear hH; intro w1 hH
  refine gl_dn rfl ?_
  refine sw_sr ?_
  refine gl_ops 1 [(2, .bool false)] (by kernel_rfl) ?_
  refine gl_dn rfl ?_
  refine sw_ret ?_
  refine thR ?_
  refine ret1 rfl rfl  ?_
  exact ⟨rfl, hH.turned⟩
theorem RAct_ct (xb : Nat) (rv : Value) (D D2 : Dsk) (cu : Bool) (pt part : Int) (w : World) (hc : cutD D = (D2, cu, pt)) (hA : ArOk D.ar) (hM : Mine w [rhdO xb rv D.off (actsI D.ar) part]) :
    Fun Tryz.prog 43 [.pointer (some ⟨xb, 0, none⟩)] w fun v w' => v = .bool cu ∧ Turn w w' [rhdO xb rv D.off (actsI D.ar) part] [rhdO xb rv D2.off (actsI D2.ar) part] := by
  have h1 : cutD D = (D2, cu, pt) := hc
  have e1 : D2 = (cutD D).1 := by rw [h1]
  have e2 : cu = (cutD D).2.1 := by rw [h1]
  subst e1 e2
  obtain ⟨fs, pw, ar⟩ := D
  match ar, hA, hM with
  | none, _, hM => exact RAct0_ct xb rv fs pw part w hM
  | some (0, p), _, hM => exact RAct1_ct xb rv fs pw p part w hM
  | some (a + 1, p), hA, hM => exact RAct2_ct xb rv fs pw a p part w hM (hA _ _ rfl)
theorem cut_part {D D2 : Dsk} {cu : Bool} {pt part : Int} (hc : cutD D = (D2, cu, pt)) (hP : PartOk D.ar part) (h : cu = true) : pt = part := by
  obtain ⟨fs, pw, ar⟩ := D
  match ar, hc, hP with
  | none, hc, _ => cases hc; cases h
  | some (0, p), hc, hP => cases hc; exact (hP _ _ rfl).symm
  | some (a + 1, p), hc, _ => cases hc; cases h
theorem cut_fs {D D2 : Dsk} {cu : Bool} {pt : Int} (hc : cutD D = (D2, cu, pt)) : D2.fs = D.fs := by
  obtain ⟨fs, pw, ar⟩ := D
  match ar, hc with
  | none, hc => cases hc; rfl
  | some (0, p), hc => cases hc; rfl
  | some (a + 1, p), hc => cases hc; rfl
theorem part_cut {D : Dsk} {part : Int} (hP : PartOk D.ar part) : PartOk (cutD D).1.ar part := by
  obtain ⟨fs, pw, ar⟩ := D
  match ar, hP with
  | none, _ => intro a p e; cases e
  | some (0, p), _ => intro a p e; cases e
  | some (a + 1, p), hP => intro b q e; cases e; exact hP _ _ rfl

theorem RMay18_ct (xb : Nat) (rv : Value) (L : FV) (D : Dsk) (nm : List UInt8) (there : Bool) (w : World) (h0 : w.cell? ⟨xb, 0, none⟩ = some rv) (h1 : w.cell? ⟨xb, 1, none⟩ = some (.bool D.off)) (hR : Row w.cell? rv 3 L.length (rowC filC L)) (hF : L.map (·.1) = D.fs) (hs : nm.length ≤ 140737488355328) :
    Fun Tryz.prog 41 [.pointer (some ⟨xb, 0, none⟩), .string (bs nm), .bool there] w fun v w' => v = .int .i64 ((mayE D nm there : Nat) : Int) ∧ Fresh w w' [] := by
  refine fun_of_sw Tryz.func41 rfl 23 rfl rfl ?_
  have hH := Hp.start w
  refine sw_sr ?_
  refine gl_ops 1 [(0, .pointer (some ⟨xb, 0, none⟩)), (1, .string (bs nm)), (2, .bool there)] (by kernel_rfl) ?_
  refine gl_dn rfl ?_
  refine sw_seq ?_
  refine sw_sr ?_
  refine gl_ops 3 [(0, .pointer (some ⟨xb, 0, none⟩)), (1, .string (bs nm)), (2, .bool there), (10, .pointer (some ⟨xb, 1, none⟩))] (by kernel_rfl) ?_
  refine gl_q rfl rfl rfl (rd_load (by kernel_rfl) rfl (hH.zin _ _ h1)) ?_
  refine gl_dn rfl ?_
  refine sw_cond rfl rfl (fun hc1 => ?_) (fun hc1 => ?_)
  ·
    refine sw_sr ?_
    refine gl_ops 1 [(6, .int .i64 80)] (by kernel_rfl) ?_
    refine gl_dn rfl ?_
    refine sw_ret ?_
    refine thR ?_
    refine ret1 rfl rfl  ?_
    exact ⟨by rw [rmay_eq hF, if_pos hc1]; rfl, hH.fresh⟩
  refine sw_skip ?_
  refine sw_next ?_
  refine sw_sr ?_
  refine gl_ops 1 [(0, .pointer (some ⟨xb, 0, none⟩)), (1, .string (bs nm)), (2, .bool there), (12, .string (bs nm))] (by kernel_rfl) ?_
  refine gl_st (st_call rfl rfl rfl (by kernel_rfl) rfl (RName_ct nm _ hs) ?_)
  rintro _ w1 ⟨rfl, hF2⟩
  replace hH := hH.call hF2; clear hF2
  refine gl_ops 1 [(0, .pointer (some ⟨xb, 0, none⟩)), (1, .string (bs nm)), (2, .bool there), (7, .bool (nameB nm))] (by kernel_rfl) ?_
  refine gl_dn rfl ?_
  refine sw_seq ?_
  refine sw_sr ?_
  refine gl_ops 2 [(0, .pointer (some ⟨xb, 0, none⟩)), (1, .string (bs nm)), (2, .bool there), (15, .bool (!(nameB nm)))] (by kernel_rfl) ?_
  refine gl_dn rfl ?_
  refine sw_cond rfl rfl (fun hc2 => ?_) (fun hc2 => ?_)
  ·
    try simp only [Bool.not_eq_true'] at hc2
    have hb : nameB nm = false := by simpa using hc2
    refine sw_sr ?_
    refine gl_ops 1 [(6, .int .i64 1)] (by kernel_rfl) ?_
    refine gl_dn rfl ?_
    refine sw_ret ?_
    refine thR ?_
    refine ret1 rfl rfl  ?_
    exact ⟨by rw [rmay_eq hF, if_neg (by rw [hc1]; simp), if_pos hb]; rfl, hH.fresh⟩
  try simp only [Bool.not_eq_false'] at hc2
  have hb : ¬ nameB nm = false := by simpa using hc2
  refine sw_skip ?_
  refine sw_next ?_
  refine sw_seq ?_
  refine sw_sr ?_
  refine gl_ops 2 [(0, .pointer (some ⟨xb, 0, none⟩)), (1, .string (bs nm)), (17, .bool there)] (by kernel_rfl) ?_
  refine gl_split 17 (b := there) rfl (fun hg3 => ?_) (fun hg3 => ?_)
  ·
    refine gl_ops 2 [(17, .bool true), (18, .pointer (some ⟨xb, 0, none⟩)), (19, .string (bs nm))] (by kernel_rfl) ?_
    refine gl_st (st_call rfl rfl rfl (by kernel_rfl) rfl (RFind_ct xb rv L nm _ (hH.zin _ _ h0) (hR.mono hH.zin)) ?_)
    rintro _ w3 ⟨rfl, hF4⟩
    replace hH := hH.call hF4; clear hF4
    refine gl_ops 2 [(22, .bool (decide ((fndZ L nm) < (0 : Int))))] (by kernel_rfl) ?_
    refine gl_dn rfl ?_
    refine sw_cond rfl rfl (fun hc4 => ?_) (fun hc4 => ?_)
    ·
      try simp only [decide_eq_true_eq] at hc4
      have hlt : ¬ fndI L nm < L.length := by intro h9; unfold fndZ at hc4; rw [if_pos h9] at hc4; omega
      refine sw_sr ?_
      refine gl_ops 1 [(6, .int .i64 81)] (by kernel_rfl) ?_
      refine gl_dn rfl ?_
      refine sw_ret ?_
      refine thR ?_
      refine ret1 rfl rfl  ?_
      exact ⟨by rw [rmay_eq hF, if_neg (by rw [hc1]; simp), if_neg hb, if_pos ⟨hg3, hlt⟩]; rfl, hH.fresh⟩
    try simp only [decide_eq_false_iff_not, Int.not_lt, Int.not_le] at hc4
    have hlt : fndI L nm < L.length := by refine Classical.byContradiction fun h9 => ?_; unfold fndZ at hc4; rw [if_neg h9] at hc4; omega
    refine sw_skip ?_
    refine sw_next ?_
    refine sw_sr ?_
    refine gl_ops 1 [(6, .int .i64 0)] (by kernel_rfl) ?_
    refine gl_dn rfl ?_
    refine sw_ret ?_
    refine ret1 rfl rfl  ?_
    exact ⟨by rw [rmay_eq hF, if_neg (by rw [hc1]; simp), if_neg hb, if_neg (fun h => h.2 hlt)]; rfl, hH.fresh⟩
  refine gl_ops 5 [(22, .bool false)] (by kernel_rfl) ?_
  refine gl_dn rfl ?_
  refine sw_false rfl rfl ?_
  refine sw_skip ?_
  refine sw_next ?_
  refine sw_sr ?_
  refine gl_ops 1 [(6, .int .i64 0)] (by kernel_rfl) ?_
  refine gl_dn rfl ?_
  refine sw_ret ?_
  refine ret1 rfl rfl  ?_
  exact ⟨by rw [rmay_eq hF, if_neg (by rw [hc1]; simp), if_neg hb, if_neg (fun h => by rw [hg3] at h; cases h.1)]; rfl, hH.fresh⟩
end Go.Proofs.YtjcchjgkkplamaaGreatDoor
