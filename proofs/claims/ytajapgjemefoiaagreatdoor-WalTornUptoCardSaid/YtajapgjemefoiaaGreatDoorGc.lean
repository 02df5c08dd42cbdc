/- Gc: several texts in one. -/
import Derived.Test.YtajapgjemefoiaaGreatDoorGa
import Derived.Test.YtajapgjemefoiaaGreatDoorProg
import Derived.Test.YtajapgjemefoiaaGreatDoorGb
/- Names (layer 3): what the program and the document call a name: what their functions answer. -/
set_option maxRecDepth 100000
set_option maxHeartbeats 2000000
set_option linter.unusedVariables false
set_option linter.unusedSimpArgs false
namespace Go.Proofs.YtajapgjemefoiaaGreatDoor
open Go.RowKit Go.SW
def letN (c : Nat) : Bool := decide (65 ≤ c ∧ c ≤ 90 ∨ 97 ≤ c ∧ c ≤ 122 ∨ c = 95)
def digN (c : Nat) : Bool := decide (48 ≤ c ∧ c ≤ 57)
theorem or32 : ∀ c : Nat, c < 256 → ((97 ≤ c ||| 32 ∧ c ||| 32 ≤ 122) ↔ (65 ≤ c ∧ c ≤ 90 ∨ 97 ≤ c ∧ c ≤ 122)) := of_decide_eq_true (by kernel_rfl)
def okN (l : List UInt8) (i : Nat) : Bool := letN (gb l i) || (i != 0 && digN (gb l i))
def nameN (l : List UInt8) : Nat := ((List.range l.length).find? fun i => !okN l i).getD l.length
theorem nameN_some {l : List UInt8} {i : Nat} (hi : i < l.length) (hb : ∀ j : Nat, j < i → okN l j = true) (hn : okN l i = false) : nameN l = i := by
  unfold nameN
  rw [List.find?_range_eq_some.2 ⟨by simp [hn], List.mem_range.2 hi, fun j hj => by simp [hb j hj]⟩]; rfl
theorem nameN_none {l : List UInt8} (hb : ∀ j : Nat, j < l.length → okN l j = true) : nameN l = l.length := by
  unfold nameN
  rw [List.find?_range_eq_none.2 (fun j hj => by simp [hb j hj])]; rfl
def nameB (l : List UInt8) : Bool := decide (nameN l = l.length ∧ 1 ≤ l.length ∧ l.length ≤ 32)
theorem ok_not {l : List UInt8} {i : Nat} (h : letN (gb l i) = false) (h2 : i = 0 ∨ digN (gb l i) = false) : okN l i = false := by
  unfold okN
  rw [h, Bool.false_or]
  rcases h2 with rfl | h2
  · rfl
  · rw [h2, Bool.and_false]
theorem ok_dig {l : List UInt8} {i : Nat} (h : i ≠ 0) (h2 : digN (gb l i) = true) : okN l i = true := by
  unfold okN
  rw [h2, show (i != 0) = true from by simpa using h]; simp
theorem ok_let {l : List UInt8} {i : Nat} (h : letN (gb l i) = true) : okN l i = true := by unfold okN; rw [h, Bool.true_or]
theorem all_next {p : Nat → Bool} {i : Nat} (h : ∀ j : Nat, j < i → p j = true) (hi : p i = true) : ∀ j : Nat, j < i + 1 → p j = true := fun j hj => (Nat.lt_succ_iff_lt_or_eq.1 hj).elim (h j) (fun e => e ▸ hi)

theorem Letter_ct (c : Nat) (w : World) (hc : c < 256) :
    Fun Tryz.prog 118 [.int .u8 (c : Nat)] w fun v w' => v = .bool (letN c) ∧ Fresh w w' [] := by
 have hor := or32 c hc
 refine fun_of_sw Tryz.func118 rfl 15 rfl rfl ?_
 have hH := Hp.start w
 refine sw_sr ?_
 refine glo 1 [(0, .int .u8 ((c : Nat) : Int))] ?_
 refine gl_dn rfl ?_
 refine sw_sr ?_
 refine glo 2 [(0, .int .u8 ((c : Nat) : Int)), (4, .int .u8 (IntKind.u8.wrap (((BitVec.ofInt 8 ((c : Nat) : Int) ||| BitVec.ofInt 8 32).toNat : Nat) : Int)))] ?_
 refine gl_cv 4 (.int .u8 ((c ||| 32 : Nat) : Int)) (cv_or_u8 (by omega) (by omega)) rfl ?_
 refine glo 2 [(0, .int .u8 ((c : Nat) : Int)), (6, .bool (decide ((97 : Int) ≤ ((c ||| 32 : Nat) : Int))))] ?_
 refine gl_split 6 (b := decide ((97 : Int) ≤ ((c ||| 32 : Nat) : Int))) rfl (fun hg1 => ?_) (fun hg1 => ?_)
 ·
  try simp only [decide_eq_true_eq] at hg1
  refine glo 2 [(0, .int .u8 ((c : Nat) : Int)), (6, .bool true), (8, .int .u8 (IntKind.u8.wrap (((BitVec.ofInt 8 ((c : Nat) : Int) ||| BitVec.ofInt 8 32).toNat : Nat) : Int)))] ?_
  refine gl_cv 8 (.int .u8 ((c ||| 32 : Nat) : Int)) (cv_or_u8 (by omega) (by omega)) rfl ?_
  refine glo 3 [(0, .int .u8 ((c : Nat) : Int)), (11, .bool (decide (((c ||| 32 : Nat) : Int) ≤ (122 : Int))))] ?_
  refine gl_split 11 (b := decide (((c ||| 32 : Nat) : Int) ≤ (122 : Int))) rfl (fun hg2 => ?_) (fun hg2 => ?_)
  ·
   try simp only [decide_eq_true_eq] at hg2
   refine glo 4 [(2, .bool true)] ?_
   refine gl_dn rfl ?_
   refine sw_ret ?_
   refine ret1 rfl rfl  ?_
   generalize c ||| 32 = q at *
   exact ⟨by congr 1; rw [Bool.eq_iff_iff]; simp [letN] <;> omega, (hH.sublist sln).fresh⟩
  try simp only [decide_eq_false_iff_not, Int.not_lt, Int.not_le] at hg2
  refine glo 4 [(2, .bool (((c : Nat) : Int) == (95 : Int)))] ?_
  refine gl_dn rfl ?_
  refine sw_ret ?_
  refine ret1 rfl rfl  ?_
  generalize c ||| 32 = q at *
  exact ⟨by congr 1; rw [Bool.eq_iff_iff]; simp [letN] <;> omega, (hH.sublist sln).fresh⟩
 try simp only [decide_eq_false_iff_not, Int.not_lt, Int.not_le] at hg1
 refine glo 9 [(2, .bool (((c : Nat) : Int) == (95 : Int)))] ?_
 refine gl_dn rfl ?_
 refine sw_ret ?_
 refine ret1 rfl rfl  ?_
 generalize c ||| 32 = q at *
 exact ⟨by congr 1; rw [Bool.eq_iff_iff]; simp [letN] <;> omega, (hH.sublist sln).fresh⟩
theorem Digit_ct (c : Nat) (w : World) (hc : c < 256) :
    Fun Tryz.prog 119 [.int .u8 (c : Nat)] w fun v w' => v = .bool (digN c) ∧ Fresh w w' [] := by
 refine fun_of_sw Tryz.func119 rfl 9 rfl rfl ?_
 have hH := Hp.start w
 refine sw_sr ?_
 refine glo 1 [(0, .int .u8 ((c : Nat) : Int))] ?_
 refine gl_dn rfl ?_
 refine sw_sr ?_
 refine glo 3 [(0, .int .u8 ((c : Nat) : Int)), (5, .bool (decide ((48 : Int) ≤ ((c : Nat) : Int))))] ?_
 refine gl_split 5 (b := decide ((48 : Int) ≤ ((c : Nat) : Int))) rfl (fun hg1 => ?_) (fun hg1 => ?_)
 ·
  try simp only [decide_eq_true_eq] at hg1
  refine glo 4 [(2, .bool (decide (((c : Nat) : Int) ≤ (57 : Int))))] ?_
  refine gl_dn rfl ?_
  refine sw_ret ?_
  refine ret1 rfl rfl  ?_
  exact ⟨by congr 1; rw [Bool.eq_iff_iff]; simp [digN] <;> omega, (hH.sublist sln).fresh⟩
 try simp only [decide_eq_false_iff_not, Int.not_lt, Int.not_le] at hg1
 refine glo 4 [(2, .bool false)] ?_
 refine gl_dn rfl ?_
 refine sw_ret ?_
 refine ret1 rfl rfl  ?_
 exact ⟨by congr 1; rw [Bool.eq_iff_iff]; simp [digN] <;> omega, (hH.sublist sln).fresh⟩
theorem LexName0_ct (s : List UInt8) (w : World) (hs : s.length ≤ 32) :
    Fun Tryz.prog 92 [.string (bs s)] w fun v w' => v = .int .i64 ((nameN s : Nat) : Int) ∧ Fresh w w' [] := by
 refine fun_of_sw Tryz.func92 rfl 29 rfl rfl ?_
 have hH := Hp.start w
 refine sw_sr ?_
 refine glo 1 [(0, .string (bs s))] ?_
 refine gl_dn rfl ?_
 refine sw_seq ?_
 refine sw_sr ?_
 refine glo 2 [(0, .string (bs s)), (5, .int .i64 (((bs s).size : Nat) : Int))] ?_
 refine gl_cv 5 (Ni s.length) (by rw [bs_size]) rfl ?_
 refine glo 1 [(0, .string (bs s)), (5, Ni s.length), (6, .int .i64 0)] ?_
 refine gl_dn rfl ?_
 refine sw_block ?_
 refine sw_loop (γ := Nat) (fun i => [(0, .string (bs s)), (5, Ni s.length), (6, Ni i)]) (fun i w_ => (i ≤ s.length) ∧ (∀ j : Nat, j < i → okN s j = true) ∧ Hp w w_ (w.cell?) [] []) (fun i => s.length - i) (0) (Sub.of_eq (by kernel_rfl)) ?_ ?_
 · exact ⟨by omega, fun j hj => absurd hj (by omega), hH⟩
 clear hH
 rintro i w1 ⟨hi, hall, hH⟩
 refine swk [(0, .string (bs s)), (5, Ni s.length), (6, Ni i)] ?_
 refine sw_sr ?_
 refine glo 1 [(0, .string (bs s)), (5, Ni s.length), (6, Ni i), (7, .bool (decide (((i : Nat) : Int) < ((s.length : Nat) : Int))))] ?_
 refine gl_dn rfl ?_
 refine sw_seq ?_
 refine sw_cond rfl rfl (fun hc1 => ?_) (fun hc1 => ?_)
 ·
  try simp only [decide_eq_true_eq] at hc1
  refine sw_skip ?_
  refine sw_next ?_
  refine sw_seq ?_
  refine sw_block ?_
  refine sw_sr ?_
  refine glo 2 [(0, .string (bs s)), (3, Ni i), (5, Ni s.length), (6, Ni i)] ?_
  refine gl_dn rfl ?_
  refine sw_sr ?_
  refine glo 2 [(0, .string (bs s)), (3, Ni i), (5, Ni s.length), (6, Ni i), (9, .string (bs s)), (10, Ni i)] ?_
  refine gl_q rfl rfl rfl (rd_sidx (by kernel_rfl) rfl i rfl (by omega)) ?_
  refine gl_st (st_call rfl rfl rfl (by kernel_rfl) rfl (Letter_ct (gb s i) _ (gb_lt _ _)) ?_)
  rintro _ w2 ⟨rfl, hF3⟩
  replace hH := hH.call hF3; clear hF3
  refine glo 2 [(0, .string (bs s)), (3, Ni i), (5, Ni s.length), (6, Ni i), (14, .bool (!(letN (gb s i))))] ?_
  refine gl_split 14 (b := !(letN (gb s i))) rfl (fun hg2 => ?_) (fun hg2 => ?_)
  ·
   try simp only [Bool.not_eq_true'] at hg2
   have hL0 := hg2
   refine glo 3 [(0, .string (bs s)), (3, Ni i), (5, Ni s.length), (6, Ni i), (14, .bool true), (17, .bool (((i : Nat) : Int) == (0 : Int)))] ?_
   refine gl_split 17 (b := ((i : Nat) : Int) == (0 : Int)) rfl (fun hg3 => ?_) (fun hg3 => ?_)
   ·
    try simp only [beq_iff_eq] at hg3
    have hZ0 := hg3
    refine glo 7 [(0, .string (bs s)), (3, Ni i), (5, Ni s.length), (6, Ni i), (24, .bool true)] ?_
    refine gl_dn rfl ?_
    refine sw_true rfl rfl ?_
    refine sw_sr ?_
    refine glo 2 [(2, Ni i)] ?_
    refine gl_dn rfl ?_
    refine sw_ret ?_
    refine bkR ?_
    refine thR ?_
    refine thR ?_
    refine bkR ?_
    refine thR ?_
    refine ret1 rfl rfl  ?_
    exact ⟨by rw [nameN_some (by omega) hall (ok_not hL0 (.inl (by omega)))], (hH.sublist sln).fresh⟩
   try simp only [beq_eq_false_iff_ne, ne_eq] at hg3
   have hZ1 := hg3
   refine glo 2 [(0, .string (bs s)), (3, Ni i), (5, Ni s.length), (6, Ni i), (14, .bool true), (17, .bool false), (18, .string (bs s)), (19, Ni i)] ?_
   refine gl_q rfl rfl rfl (rd_sidx (by kernel_rfl) rfl i rfl (by omega)) ?_
   refine gl_st (st_call rfl rfl rfl (by kernel_rfl) rfl (Digit_ct (gb s i) _ (gb_lt _ _)) ?_)
   rintro _ w4 ⟨rfl, hF5⟩
   replace hH := hH.call hF5; clear hF5
   refine glo 3 [(0, .string (bs s)), (3, Ni i), (5, Ni s.length), (6, Ni i), (24, .bool (!(digN (gb s i))))] ?_
   refine gl_dn rfl ?_
   refine sw_cond rfl rfl (fun hc5 => ?_) (fun hc5 => ?_)
   ·
    try simp only [Bool.not_eq_true'] at hc5
    have hD0 := hc5
    refine sw_sr ?_
    refine glo 2 [(2, Ni i)] ?_
    refine gl_dn rfl ?_
    refine sw_ret ?_
    refine bkR ?_
    refine thR ?_
    refine thR ?_
    refine bkR ?_
    refine thR ?_
    refine ret1 rfl rfl  ?_
    exact ⟨by rw [nameN_some (by omega) hall (ok_not hL0 (.inr hD0))], (hH.sublist sln).fresh⟩
   try simp only [Bool.not_eq_false'] at hc5
   have hD1 := hc5
   refine sw_skip ?_
   refine bkN ?_
   refine sw_next ?_
   refine sw_region ?_
   refine glo 1 [(0, .string (bs s)), (5, Ni s.length), (26, .int .i64 (IntKind.i64.wrap (((i : Nat) : Int) + 1)))] ?_
   refine gl_cv 26 (Ni (i + 1)) (cv_i64 (by omega)) rfl ?_
   refine glo 1 [(0, .string (bs s)), (5, Ni s.length), (6, Ni (i + 1))] ?_
   refine gl_done rfl ?_
   refine rnd_end (g := (i)) (i + 1) (by kernel_rfl) ?_ ?_
   · exact ⟨by omega, all_next hall (by first | exact ok_let hL1 | exact ok_dig (by omega) hD1), hH⟩
   · show s.length - (i + 1) < s.length - i; omega
  try simp only [Bool.not_eq_false'] at hg2
  have hL1 := hg2
  refine glo 10 [(0, .string (bs s)), (3, Ni i), (5, Ni s.length), (6, Ni i), (24, .bool false)] ?_
  refine gl_dn rfl ?_
  refine sw_false rfl rfl ?_
  refine sw_skip ?_
  refine bkN ?_
  refine sw_next ?_
  refine sw_region ?_
  refine glo 1 [(0, .string (bs s)), (5, Ni s.length), (26, .int .i64 (IntKind.i64.wrap (((i : Nat) : Int) + 1)))] ?_
  refine gl_cv 26 (Ni (i + 1)) (cv_i64 (by omega)) rfl ?_
  refine glo 1 [(0, .string (bs s)), (5, Ni s.length), (6, Ni (i + 1))] ?_
  refine gl_done rfl ?_
  refine rnd_end (g := (i)) (i + 1) (by kernel_rfl) ?_ ?_
  · exact ⟨by omega, all_next hall (by first | exact ok_let hL1 | exact ok_dig (by omega) hD1), hH⟩
  · show s.length - (i + 1) < s.length - i; omega
 try simp only [decide_eq_false_iff_not, Int.not_lt, Int.not_le] at hc1
 refine sw_exit ?_
 refine thX ?_
 refine thX ?_
 refine bkH ?_
 refine sw_next ?_
 refine sw_sr ?_
 refine glo 2 [(28, .int .i64 (((bs s).size : Nat) : Int))] ?_
 refine gl_cv 28 (Ni s.length) (by rw [bs_size]) rfl ?_
 refine glo 1 [(2, Ni s.length)] ?_
 refine gl_dn rfl ?_
 refine sw_ret ?_
 refine ret1 rfl rfl  ?_
 exact ⟨by rw [nameN_none (fun j hj => hall j (by omega))], (hH.sublist sln).fresh⟩
theorem LexName_ct (s : List UInt8) (w : World) (hs : s.length ≤ 140737488355328) :
    Fun Tryz.prog 58 [.string (bs s)] w fun v w' => v = .bool (nameB s) ∧ Fresh w w' [] := by
 refine fun_of_sw Tryz.func58 rfl 17 rfl rfl ?_
 have hH := Hp.start w
 refine sw_sr ?_
 refine glo 1 [(0, .string (bs s))] ?_
 refine gl_dn rfl ?_
 refine sw_sr ?_
 refine glo 1 [(0, .string (bs s)), (3, .string (bs s))] ?_
 refine gl_q rfl rfl rfl (rd_sneq (by kernel_rfl) rfl rfl) ?_
 refine glo 1 [(0, .string (bs s)), (5, .bool (!(s == [])))] ?_
 refine gl_split 5 (b := !(s == [])) rfl (fun hg1 => ?_) (fun hg1 => ?_)
 ·
  try simp only [Bool.not_eq_true', beq_eq_false_iff_ne, ne_eq] at hg1
  have hne : 1 ≤ s.length := List.length_pos_iff.2 hg1
  refine glo 2 [(0, .string (bs s)), (5, .bool true), (7, .int .i64 (((bs s).size : Nat) : Int))] ?_
  refine gl_cv 7 (Ni s.length) (by rw [bs_size]) rfl ?_
  refine glo 3 [(0, .string (bs s)), (10, .bool (decide (((s.length : Nat) : Int) ≤ (32 : Int))))] ?_
  refine gl_split 10 (b := decide (((s.length : Nat) : Int) ≤ (32 : Int))) rfl (fun hg2 => ?_) (fun hg2 => ?_)
  ·
   try simp only [decide_eq_true_eq] at hg2
   refine glo 1 [(0, .string (bs s)), (10, .bool true), (11, .string (bs s))] ?_
   refine gl_st (st_call rfl rfl rfl (by kernel_rfl) rfl (LexName0_ct s _ (by omega)) ?_)
   rintro _ w1 ⟨rfl, hF2⟩
   replace hH := hH.call hF2; clear hF2
   refine glo 2 [(10, .bool true), (12, Ni (nameN s)), (14, .int .i64 (((bs s).size : Nat) : Int))] ?_
   refine gl_cv 14 (Ni s.length) (by rw [bs_size]) rfl ?_
   refine glo 3 [(2, .bool (((nameN s : Nat) : Int) == ((s.length : Nat) : Int)))] ?_
   refine gl_dn rfl ?_
   refine sw_ret ?_
   refine ret1 rfl rfl  ?_
   exact ⟨by congr 1; rw [Bool.eq_iff_iff]; unfold nameB; simp only [decide_eq_true_eq, beq_iff_eq, Bool.false_eq_true, false_iff]; omega, (hH.sublist sln).fresh⟩
  try simp only [decide_eq_false_iff_not, Int.not_lt, Int.not_le] at hg2
  refine glo 7 [(2, .bool false)] ?_
  refine gl_dn rfl ?_
  refine sw_ret ?_
  refine ret1 rfl rfl  ?_
  exact ⟨by congr 1; rw [Bool.eq_iff_iff]; unfold nameB; simp only [decide_eq_true_eq, beq_iff_eq, Bool.false_eq_true, false_iff]; omega, (hH.sublist sln).fresh⟩
 try simp only [Bool.not_eq_false', beq_iff_eq] at hg1
 have hne : s.length = 0 := by rw [hg1]; rfl
 refine glo 12 [(2, .bool false)] ?_
 refine gl_dn rfl ?_
 refine sw_ret ?_
 refine ret1 rfl rfl  ?_
 exact ⟨by congr 1; rw [Bool.eq_iff_iff]; unfold nameB; simp only [decide_eq_true_eq, beq_iff_eq, Bool.false_eq_true, false_iff]; omega, (hH.sublist sln).fresh⟩
end Go.Proofs.YtajapgjemefoiaaGreatDoor
/- Layer 18 (disk): what a disk is, and what is done to it. Plain mathematics. -/
set_option linter.unusedVariables false
namespace Go.Proofs.YtajapgjemefoiaaGreatDoor
open Go.SW Go.RowKit Go.Sort
/-- A file. -/
structure Fil where
  name : List UInt8
  b : List UInt8
  sure : Nat
def getF (F : List Fil) (nm : List UInt8) : Option Fil := F.find? fun f => f.name == nm
def setF (F : List Fil) (f : Fil) : List Fil := F.filter (fun g => decide (g.name < f.name)) ++ f :: F.filter (fun g => decide (f.name < g.name))
def delF (F : List Fil) (nm : List UInt8) : List Fil := F.filter fun g => !(g.name == nm)
def Srt (F : List Fil) : Prop := F.Pairwise fun a b => a.name < b.name
theorem bl_irrefl (a : List UInt8) : ¬ a < a := List.lt_irrefl a
theorem bl_trans {a b c : List UInt8} (h : a < b) (k : b < c) : a < c := List.lt_trans h k
theorem bl_tri (a b : List UInt8) : a < b ∨ a = b ∨ b < a := by
  by_cases h : a < b
  · exact .inl h
  · by_cases h2 : b < a
    · exact .inr (.inr h2)
    · exact .inr (.inl (List.le_antisymm (List.not_lt.1 h2) (List.not_lt.1 h)))
theorem bl_ne {a b : List UInt8} (h : a < b) : a ≠ b := fun e => bl_irrefl b (e ▸ h)
theorem srt_set {F : List Fil} (h : Srt F) (f : Fil) : Srt (setF F f) := by
  unfold setF Srt
  rw [List.pairwise_append]
  refine ⟨h.filter _, List.pairwise_cons.2 ⟨fun g hg => of_decide_eq_true (List.mem_filter.1 hg).2, h.filter _⟩, fun a ha b hb => ?_⟩
  have h1 := of_decide_eq_true (List.mem_filter.1 ha).2
  rcases List.mem_cons.1 hb with rfl | hb
  · exact h1
  · exact bl_trans h1 (of_decide_eq_true (List.mem_filter.1 hb).2)
theorem srt_del {F : List Fil} (h : Srt F) (nm : List UInt8) : Srt (delF F nm) := h.filter _
theorem srt_nodup {F : List Fil} (h : Srt F) : (F.map (·.name)).Nodup := by
  unfold List.Nodup
  rw [List.pairwise_map]
  exact h.imp fun h => bl_ne h
theorem nodup_inj {α β : Type} {f : α → β} {l : List α} (h : (l.map f).Nodup) {a b : α} (ha : a ∈ l) (hb : b ∈ l) (e : f a = f b) : a = b := by
  induction l with
  | nil => simp at ha
  | cons x l ih =>
    rw [List.map_cons, List.nodup_cons] at h
    rcases List.mem_cons.1 ha with ha2 | ha2 <;> rcases List.mem_cons.1 hb with hb2 | hb2
    · rw [ha2, hb2]
    · exact absurd (List.mem_map.2 ⟨b, hb2, by rw [← e, ha2]⟩) h.1
    · exact absurd (List.mem_map.2 ⟨a, ha2, by rw [e, hb2]⟩) h.1
    · exact ih h.2 ha2 hb2
theorem getF_some {F : List Fil} (h : Srt F) {nm : List UInt8} {f : Fil} : getF F nm = some f ↔ f ∈ F ∧ f.name = nm := by
  constructor
  · intro hf
    exact ⟨List.mem_of_find?_eq_some hf, by simpa using List.find?_some hf⟩
  · rintro ⟨h1, rfl⟩
    unfold getF
    cases hf : F.find? (fun g => g.name == f.name) with
    | none => exact absurd (List.find?_eq_none.1 hf f h1) (by simp)
    | some g =>
      have h2 := List.mem_of_find?_eq_some hf
      have h3 : g.name = f.name := by simpa using List.find?_some hf
      rw [nodup_inj (srt_nodup h) h2 h1 h3]
theorem getF_none {F : List Fil} {nm : List UInt8} : getF F nm = none ↔ ∀ f ∈ F, f.name ≠ nm := by
  unfold getF; rw [List.find?_eq_none]; simp
theorem mem_set {F : List Fil} {f g : Fil} : g ∈ setF F f ↔ g = f ∨ g ∈ F ∧ g.name ≠ f.name := by
  unfold setF
  simp only [List.mem_append, List.mem_cons, List.mem_filter, decide_eq_true_eq]
  constructor
  · rintro (⟨h1, h2⟩ | rfl | ⟨h1, h2⟩)
    · exact .inr ⟨h1, bl_ne h2⟩
    · exact .inl rfl
    · exact .inr ⟨h1, (bl_ne h2).symm⟩
  · rintro (rfl | ⟨h1, h2⟩)
    · exact .inr (.inl rfl)
    · rcases bl_tri g.name f.name with h | h | h
      · exact .inl ⟨h1, h⟩
      · exact absurd h h2
      · exact .inr (.inr ⟨h1, h⟩)
theorem mem_del {F : List Fil} {nm : List UInt8} {g : Fil} : g ∈ delF F nm ↔ g ∈ F ∧ g.name ≠ nm := by
  unfold delF; rw [List.mem_filter]; simp
theorem getF_set {F : List Fil} (h : Srt F) (f : Fil) (nm : List UInt8) : getF (setF F f) nm = if f.name = nm then some f else getF F nm := by
  by_cases hn : f.name = nm
  · rw [if_pos hn, getF_some (srt_set h f)]
    exact ⟨mem_set.2 (.inl rfl), hn⟩
  · rw [if_neg hn]
    cases hg : getF F nm with
    | none =>
      rw [getF_none] at hg ⊢
      intro g hgm
      rcases mem_set.1 hgm with rfl | hgm
      · exact hn
      · exact hg g hgm.1
    | some g =>
      rw [getF_some h] at hg
      rw [getF_some (srt_set h f)]
      exact ⟨mem_set.2 (.inr ⟨hg.1, by rw [hg.2]; exact fun e => hn e.symm⟩), hg.2⟩
theorem perm_of_mem {F G : List Fil} (hF : (F.map (·.name)).Nodup) (hG : (G.map (·.name)).Nodup) (h : ∀ f, f ∈ F ↔ f ∈ G) : F.Perm G := by
  have nd : ∀ L : List Fil, (L.map (·.name)).Nodup → L.Nodup := fun L hL => (List.pairwise_map.1 hL).imp fun h e => h (by rw [e])
  exact (List.perm_ext_iff_of_nodup (nd F hF) (nd G hG)).2 h
theorem setF_perm {F : List Fil} (h : Srt F) (f : Fil) : (setF F f).Perm (f :: delF F f.name) := by
  refine perm_of_mem (srt_nodup (srt_set h f)) ?_ (fun g => ?_)
  · rw [List.map_cons, List.nodup_cons]
    refine ⟨fun hm => ?_, srt_nodup (srt_del h _)⟩
    obtain ⟨g, hg, e⟩ := List.mem_map.1 hm
    exact (mem_del.1 hg).2 e
  · rw [mem_set, List.mem_cons, mem_del]
theorem srt_eq {F G : List Fil} (hF : Srt F) (hG : Srt G) (h : F.Perm G) : F = G :=
  List.Perm.eq_of_pairwise (le := fun a b : Fil => a.name < b.name) (fun a b _ _ h1 h2 => absurd (bl_trans h1 h2) (bl_irrefl _)) hF hG h
structure Dsk where
  fs : List Fil
  off : Bool
  ar : Option (Nat × Int)
def mayE (D : Dsk) (nm : List UInt8) (there : Bool) : Nat := if D.off = true then 80 else if nameB nm = false then 1 else if there = true ∧ getF D.fs nm = none then 81 else 0
def cutD (D : Dsk) : Dsk × Bool × Int :=
  match D.ar with
  | none => (D, false, 0)
  | some (a + 1, p) => ({ D with ar := some (a, p) }, false, 0)
  | some (0, p) => ({ D with ar := none, off := true }, true, p)
def modI (n : Int) (by_ : Nat) : Nat := (n % (by_ : Int)).toNat
def oldF (F : List Fil) (nm : List UInt8) : Fil := (getF F nm).getD ⟨nm, [], 0⟩
def doF (F : List Fil) (kind : Nat) (nm p : List UInt8) (n : Nat) : List Fil :=
  match kind with
  | 0 => setF F ⟨nm, (oldF F nm).b ++ p, (oldF F nm).sure⟩
  | 1 => setF F ⟨nm, (oldF F nm).b, (oldF F nm).b.length⟩
  | 2 => setF F ⟨nm, p, p.length⟩
  | 3 => setF F ⟨nm, (oldF F nm).b.take n, min (oldF F nm).sure n⟩
  | _ => delF F nm
def doD (D : Dsk) (kind : Nat) (nm p : List UInt8) (n : Int) : Dsk × Nat :=
  if mayE D nm (decide (kind ≠ 0 ∧ kind ≠ 2)) ≠ 0 then (D, mayE D nm (decide (kind ≠ 0 ∧ kind ≠ 2))) else
  if kind = 3 ∧ (n < 0 ∨ ((oldF D.fs nm).b.length : Int) < n) then (D, 1) else
  ({ (cutD D).1 with fs := if (cutD D).2.1 = false ∨ kind = 0 ∨ modI (cutD D).2.2 2 = 1 then doF D.fs kind nm (if (cutD D).2.1 = true ∧ kind = 0 then p.take (modI (cutD D).2.2 (p.length + 1)) else p) n.toNat else D.fs }, if (cutD D).2.1 = true then 80 else 0)
def armD (D : Dsk) (a p : Int) : Dsk := { D with ar := if 0 ≤ a then some (a.toNat, p) else none }
def startS (f : Fil) (i : Nat) (keep : List Int) : Nat := f.sure + (if i < keep.length then modI (keep.getD i 0) (f.b.length - f.sure + 1) else 0)
def startF1 (f : Fil) (i : Nat) (keep : List Int) : Fil := ⟨f.name, f.b.take (startS f i keep), startS f i keep⟩
def startF (F : List Fil) (keep : List Int) : List Fil := F.mapIdx fun i f => startF1 f i keep
def startD (D : Dsk) (keep : List Int) : Dsk := ⟨startF D.fs keep, false, none⟩
theorem modI_lt (n : Int) {k : Nat} (hk : 0 < k) : modI n k < k := by
  unfold modI
  have h1 := Int.emod_nonneg n (show (k : Int) ≠ 0 by omega)
  have h2 := Int.emod_lt_of_pos n (show (0 : Int) < k by omega)
  omega
/-- What holds of all files: in order, what is sure is there, none too long. -/
structure Good (F : List Fil) (M : Nat) : Prop where
  srt : Srt F
  sure : ∀ f ∈ F, f.sure ≤ f.b.length
  short : ∀ f ∈ F, f.b.length ≤ M
  nm : ∀ f ∈ F, f.name.length ≤ 32
theorem good_set {F : List Fil} {M M' : Nat} (h : Good F M) (hM : M ≤ M') {f : Fil} (h1 : f.sure ≤ f.b.length) (h2 : f.b.length ≤ M') (h3 : f.name.length ≤ 32) : Good (setF F f) M' :=
  ⟨srt_set h.srt f, fun g hg => by
    rcases mem_set.1 hg with rfl | hg
    · exact h1
    · exact h.sure g hg.1, fun g hg => by
    rcases mem_set.1 hg with rfl | hg
    · exact h2
    · exact Nat.le_trans (h.short g hg.1) hM, fun g hg => by
    rcases mem_set.1 hg with rfl | hg
    · exact h3
    · exact h.nm g hg.1⟩
theorem good_del {F : List Fil} {M : Nat} (h : Good F M) (nm : List UInt8) : Good (delF F nm) M :=
  ⟨srt_del h.srt nm, fun g hg => h.sure g (mem_del.1 hg).1, fun g hg => h.short g (mem_del.1 hg).1, fun g hg => h.nm g (mem_del.1 hg).1⟩
theorem Good.mono {F : List Fil} {M M' : Nat} (h : Good F M) (hM : M ≤ M') : Good F M' := ⟨h.srt, h.sure, fun g hg => Nat.le_trans (h.short g hg) hM, h.nm⟩
theorem good_nil (M : Nat) : Good [] M := ⟨List.Pairwise.nil, by simp, by simp, by simp⟩
theorem good_old {F : List Fil} {M : Nat} (h : Good F M) (nm : List UInt8) : (oldF F nm).sure ≤ (oldF F nm).b.length ∧ (oldF F nm).b.length ≤ M ∧ (oldF F nm).name = nm := by
  unfold oldF
  cases hg : getF F nm with
  | none => simp
  | some f =>
    obtain ⟨h1, h2⟩ := (getF_some h.srt).1 hg
    exact ⟨h.sure f h1, h.short f h1, h2⟩
theorem good_doF {F : List Fil} {M : Nat} (h : Good F M) (kind : Nat) (nm p : List UInt8) (n : Nat) (hn : nm.length ≤ 32) : Good (doF F kind nm p n) (M + p.length) := by
  obtain ⟨h1, h2, h3⟩ := good_old h nm
  unfold doF
  split
  · exact good_set h (by omega) (by simp only [List.length_append]; omega) (by simp only [List.length_append]; omega) hn
  · exact good_set h (by omega) (Nat.le_refl _) (by simp only; omega) hn
  · exact good_set h (by omega) (Nat.le_refl _) (by simp only; omega) hn
  · exact good_set h (by omega) (by simp only [List.length_take]; omega) (by simp only [List.length_take]; omega) hn
  · exact (good_del h nm).mono (by omega)
theorem name_short {l : List UInt8} (h : nameB l = true) : l.length ≤ 32 := by
  unfold nameB at h
  simp only [decide_eq_true_eq] at h
  omega
theorem may_short {D : Dsk} {nm : List UInt8} {b : Bool} (h : mayE D nm b = 0) : nm.length ≤ 32 := by
  refine name_short ?_
  unfold mayE at h
  split at h
  · omega
  split at h
  · omega
  rename_i h2
  simpa using h2
theorem good_doD {D : Dsk} {M : Nat} (h : Good D.fs M) (kind : Nat) (nm p : List UInt8) (n : Int) : Good (doD D kind nm p n).1.fs (M + p.length) := by
  unfold doD
  split
  · exact h.mono (by omega)
  rename_i hm
  have hn := may_short (Decidable.not_not.1 hm)
  split
  · exact h.mono (by omega)
  simp only
  split
  · split
    · exact (good_doF h kind nm _ _ hn).mono (by rw [List.length_take]; omega)
    · exact good_doF h kind nm _ _ hn
  · exact h.mono (by omega)
theorem startS_le {f : Fil} (h : f.sure ≤ f.b.length) (i : Nat) (keep : List Int) : f.sure ≤ startS f i keep ∧ startS f i keep ≤ f.b.length := by
  unfold startS
  split
  · have := modI_lt (keep.getD i 0) (show 0 < f.b.length - f.sure + 1 by omega)
    omega
  · omega
structure PE where
  name : List UInt8
  fb : Nat
  v : Value
  b : List UInt8
  sure : Nat
def PE.fil (e : PE) : Fil := ⟨e.name, e.b, e.sure⟩
def kvE (es : List PE) : SEs := es.map fun e => (e.name, Value.pointer (some ⟨e.fb, 0, none⟩))
def ixE (es : List PE) (nm : List UInt8) : Nat := es.findIdx fun e => e.name == nm
structure Rep (es : List PE) (F : List Fil) : Prop where
  srt : Srt F
  perm : (es.map PE.fil).Perm F
theorem Rep.nodup {es : List PE} {F : List Fil} (h : Rep es F) : (es.map (·.name)).Nodup := by
  have h1 := (h.perm.map (·.name)).nodup_iff.2 (srt_nodup h.srt)
  rwa [List.map_map] at h1
theorem kfind_kvE (nm : List UInt8) : ∀ (es : List PE) (i : Nat), kfind nm (kvE es) i = (es[ixE es nm]?).map fun e => (i + ixE es nm, Value.pointer (some ⟨e.fb, 0, none⟩))
  | [], i => rfl
  | e :: es, i => by
    unfold kvE ixE
    rw [List.map_cons, List.findIdx_cons]
    unfold kfind
    by_cases h : e.name = nm
    · rw [if_pos h]; simp [h]
    · rw [if_neg h]
      have := kfind_kvE nm es (i + 1)
      unfold kvE ixE at this
      rw [this, show (e.name == nm) = false from by simpa using h]
      simp only [cond_false, List.getElem?_cons_succ]
      cases es[es.findIdx fun e => e.name == nm]? with
      | none => rfl
      | some e => simp only [Option.map_some]; congr 2; omega
theorem ix_at {es : List PE} {nm : List UInt8} (h : ixE es nm < es.length) : ∃ e, es[ixE es nm]? = some e ∧ e.name = nm := by
  refine ⟨es[ixE es nm], List.getElem?_eq_getElem h, ?_⟩
  have h2 : (es[ixE es nm].name == nm) = true := List.findIdx_getElem (xs := es) (p := fun e : PE => e.name == nm) (w := h)
  exact eq_of_beq h2
theorem ix_none {es : List PE} {nm : List UInt8} (h : ¬ ixE es nm < es.length) : ∀ e ∈ es, e.name ≠ nm := by
  have h1 : es.findIdx (fun e => e.name == nm) = es.length := Nat.le_antisymm List.findIdx_le_length (by unfold ixE at h; omega)
  have := List.findIdx_eq_length.1 h1
  intro e he
  simpa using this e he
theorem ix_of {es : List PE} {F : List Fil} (h : Rep es F) {i : Nat} {e : PE} (he : es[i]? = some e) : ixE es e.name = i := by
  have hi : i < es.length := (List.getElem?_eq_some_iff.1 he).1
  have hlt : ixE es e.name < es.length := by
    refine Classical.byContradiction fun hn => ?_
    exact ix_none hn e (List.mem_of_getElem? he) rfl
  obtain ⟨e2, h2, h3⟩ := ix_at hlt
  have hn := h.nodup
  have h4 : (es.map (·.name))[ixE es e.name]? = (es.map (·.name))[i]? := by rw [List.getElem?_map, List.getElem?_map, h2, he]; simp [h3]
  exact (List.getElem?_inj (by simpa using hlt) hn).1 h4
theorem rep_get {es : List PE} {F : List Fil} (h : Rep es F) (nm : List UInt8) : (es[ixE es nm]?).map PE.fil = getF F nm := by
  by_cases hlt : ixE es nm < es.length
  · obtain ⟨e, h2, h3⟩ := ix_at hlt
    rw [h2]
    refine Eq.symm ((getF_some h.srt).2 ⟨h.perm.mem_iff.1 (List.mem_map.2 ⟨e, List.mem_of_getElem? h2, rfl⟩), h3⟩)
  · rw [List.getElem?_eq_none (by omega)]
    refine Eq.symm (getF_none.2 fun f hf => ?_)
    obtain ⟨e, he, rfl⟩ := List.mem_map.1 (h.perm.mem_iff.2 hf)
    exact ix_none hlt e he
theorem kvE_set {es : List PE} {i : Nat} {e e' : PE} (he : es[i]? = some e) (hn : e'.name = e.name) (hb : e'.fb = e.fb) : kvE (es.set i e') = kvE es := by
  unfold kvE
  rw [List.map_set, hn, hb]
  apply List.ext_getElem?
  intro j
  rw [List.getElem?_set]
  split
  · rename_i h; subst h
    have hi : i < es.length := (List.getElem?_eq_some_iff.1 he).1
    rw [if_pos (by simpa using hi), List.getElem?_map, he]; rfl
  · rfl
def putE (es : List PE) (e : PE) : List PE := if ixE es e.name < es.length then es.set (ixE es e.name) e else es ++ [e]
theorem kput_kvE (es : List PE) (e : PE) : kput (kvE es) e.name (.pointer (some ⟨e.fb, 0, none⟩)) = kvE (putE es e) := by
  unfold kput putE
  rw [kfind_kvE]
  by_cases h : ixE es e.name < es.length
  · rw [if_pos h, List.getElem?_eq_getElem h]
    simp only [Option.map_some, Nat.zero_add]
    simp [kvE, List.map_set]
  · rw [if_neg h, List.getElem?_eq_none (by omega)]
    simp [kvE]
theorem kdel_kvE (es : List PE) (nm : List UInt8) : kdel (kvE es) nm = kvE (es.eraseIdx (ixE es nm)) := by
  unfold kdel
  rw [kfind_kvE]
  by_cases h : ixE es nm < es.length
  · rw [List.getElem?_eq_getElem h]
    simp only [Option.map_some, Nat.zero_add, kvE]
    rw [map_eraseIdx]
  · rw [List.getElem?_eq_none (by omega), List.eraseIdx_of_length_le (by omega)]
    rfl
theorem rep_del {es : List PE} {F : List Fil} (h : Rep es F) (nm : List UInt8) : Rep (es.eraseIdx (ixE es nm)) (delF F nm) := by
  refine ⟨srt_del h.srt nm, ?_⟩
  have hn := h.nodup
  have hsub : ((es.eraseIdx (ixE es nm)).map PE.fil).Sublist (es.map PE.fil) := (List.eraseIdx_sublist _ _).map _
  refine perm_of_mem ?_ (srt_nodup (srt_del h.srt nm)) (fun f => ?_)
  · rw [List.map_map]
    exact hn.sublist ((List.eraseIdx_sublist _ _).map _)
  · rw [mem_del, ← h.perm.mem_iff]
    by_cases hlt : ixE es nm < es.length
    · obtain ⟨e, h2, h3⟩ := ix_at hlt
      have hp : es.Perm (e :: es.eraseIdx (ixE es nm)) := (perm_erase es _ e h2).symm
      have hn2 := ((hp.map (·.name)).nodup_iff.1 hn)
      rw [List.map_cons, List.nodup_cons] at hn2
      rw [(hp.map PE.fil).mem_iff, List.map_cons, List.mem_cons]
      constructor
      · intro hm
        refine ⟨.inr hm, fun e4 => hn2.1 ?_⟩
        obtain ⟨e5, h5, rfl⟩ := List.mem_map.1 hm
        exact List.mem_map.2 ⟨e5, h5, e4.trans h3.symm⟩
      · rintro ⟨rfl | hm, h6⟩
        · exact absurd h3 h6
        · exact hm
    · rw [List.eraseIdx_of_length_le (by omega)]
      exact ⟨fun hm => ⟨hm, by
        obtain ⟨e, he, rfl⟩ := List.mem_map.1 hm
        exact ix_none hlt e he⟩, fun hm => hm.1⟩
theorem rep_put {es : List PE} {F : List Fil} (h : Rep es F) (e : PE) : Rep (putE es e) (setF F e.fil) := by
  refine ⟨srt_set h.srt _, ?_⟩
  refine List.Perm.trans ?_ (setF_perm h.srt e.fil).symm
  have hd : ((es.eraseIdx (ixE es e.name)).map PE.fil).Perm (delF F e.name) := (rep_del h e.name).perm
  refine List.Perm.trans ?_ (hd.cons e.fil)
  unfold putE
  by_cases hlt : ixE es e.name < es.length
  · rw [if_pos hlt]
    have := perm_erase (es.set (ixE es e.name) e) (ixE es e.name) e (by simp [hlt])
    rw [List.eraseIdx_set_eq] at this
    exact (this.symm.map PE.fil)
  · rw [if_neg hlt, List.eraseIdx_of_length_le (by omega), List.map_append]
    exact List.perm_append_comm
theorem rep_set {es : List PE} {F : List Fil} (h : Rep es F) {i : Nat} {e : PE} (he : es[i]? = some e) (e' : PE) (hn : e'.name = e.name) : Rep (es.set i e') (setF F e'.fil) := by
  have hi : i < es.length := (List.getElem?_eq_some_iff.1 he).1
  have := rep_put h e'
  unfold putE at this
  rw [hn, ix_of h he, if_pos hi] at this
  exact this
theorem rep_keys {es : List PE} {F : List Fil} (h : Rep es F) {ss : List (List UInt8)} (hs : ss.Perm (es.map (·.name))) : ss.mergeSort (fun x y => decide (x ≤ y)) = F.map (·.name) := by
  have h1 : ss.Perm (F.map (·.name)) := hs.trans (by have := h.perm.map (·.name); rwa [List.map_map] at this)
  have h2 := mergeSort_of_perm h1
  unfold leB at h2
  rw [h2]
  refine List.mergeSort_of_pairwise ?_
  rw [List.pairwise_map]
  exact h.srt.imp fun h => by simpa using List.le_of_lt h
end Go.Proofs.YtajapgjemefoiaaGreatDoor
/- Layer 18 (disk), the program's: its parts: modulo, at, cut, act; what they answer. -/
set_option maxRecDepth 100000
set_option maxHeartbeats 2000000
set_option linter.unusedVariables false
set_option linter.unusedSimpArgs false
namespace Go.Proofs.YtajapgjemefoiaaGreatDoor
open Go.RowKit Go.SW
def filO (e : PE) : List Own := [.blk e.fb 80 [e.v, .int .i64 ((e.sure : Nat) : Int)], .vw e.v 5 e.b]
def arV (ar : Option (Nat × Int)) (ab : Nat) : Value := if ar.isSome then .pointer (some ⟨ab, 0, none⟩) else .pointer none
def armO (ar : Option (Nat × Int)) (ab : Nat) : List Own :=
  match ar with
  | none => []
  | some (a, p) => [.blk ab 124 [.int .i64 ((a : Nat) : Int), .int .i64 p]]
def hdO (db mb ab : Nat) (off : Bool) (ar : Option (Nat × Int)) : Own := .blk db 70 [.map (some mb), .bool off, arV ar ab]
def filsO (es : List PE) : Own := .grp (es.map fun e => .grp (filO e))
def dskO (db mb ab : Nat) (D : Dsk) (es : List PE) : List Own := [hdO db mb ab D.off D.ar, .smap mb (kvE es), filsO es, .grp (armO D.ar ab)]
def ArOk (ar : Option (Nat × Int)) : Prop := ∀ a p, ar = some (a, p) → a ≤ 9223372036854775807
theorem arOk_cut {D : Dsk} (h : ArOk D.ar) : ArOk (cutD D).1.ar := by
  obtain ⟨fs, off, ar⟩ := D
  intro a p e
  match ar, h with
  | none, _ => cases e
  | some (0, q), _ => cases e
  | some (b + 1, q), h =>
    have := h (b + 1) q rfl
    cases e
    omega
def fV (es : List PE) (nm : List UInt8) : Value := match es[ixE es nm]? with | some e => .pointer (some ⟨e.fb, 0, none⟩) | none => .pointer none
theorem fV_get (es : List PE) (nm : List UInt8) : (kget (kvE es) nm).getD (.pointer none) = fV es nm := by
  unfold kget fV
  rw [kfind_kvE]
  cases es[ixE es nm]? <;> rfl
theorem fV_nil (es : List PE) (nm : List UInt8) : PNil (fV es nm) (decide (¬ ixE es nm < es.length)) := by
  unfold fV
  by_cases h : ixE es nm < es.length
  · rw [List.getElem?_eq_getElem h]; exact .inr ⟨_, rfl, by simpa using h⟩
  · rw [List.getElem?_eq_none (by omega)]; exact .inl ⟨rfl, by simpa using h⟩
def mayQ (off : Bool) (es : List PE) (nm : List UInt8) : Nat := if off = true then 80 else if nameB nm = false then 1 else if ixE es nm < es.length then 0 else 81
def atV (off : Bool) (es : List PE) (nm : List UInt8) : Value := if mayQ off es nm = 0 then fV es nm else .pointer none
theorem atV_one (pw : Bool) (es : List PE) (nm : List UInt8) : (atV pw es nm).oneCell' = true := by
  unfold atV fV
  split
  · split <;> rfl
  · rfl
theorem mayP_eq {D : Dsk} {es : List PE} (h : Rep es D.fs) (nm : List UInt8) : mayE D nm true = mayQ D.off es nm := by
  unfold mayE mayQ
  have := rep_get h nm
  by_cases hlt : ixE es nm < es.length
  · rw [List.getElem?_eq_getElem hlt] at this
    rw [← this, if_pos hlt]; simp
  · rw [List.getElem?_eq_none (by omega)] at this
    rw [← this, if_neg hlt]; simp
theorem mayE_ff {D : Dsk} {es : List PE} (h : Rep es D.fs) (nm : List UInt8) : mayE D nm false = if mayQ D.off es nm = 81 then 0 else mayQ D.off es nm := by
  rw [← mayP_eq h]
  unfold mayE
  by_cases h1 : D.off = true
  · simp [h1]
  · by_cases h2 : nameB nm = false
    · simp [h1, h2]
    · by_cases h3 : getF D.fs nm = none <;> simp [h1, h2, h3]
theorem tmod_modI (n : Int) (k : Nat) (hk : 0 < k) : (n.tmod (k : Int) + (k : Int)).tmod (k : Int) = ((modI n k : Nat) : Int) := by
  unfold modI
  have h1 : 0 ≤ n % (k : Int) := Int.emod_nonneg n (by omega)
  rw [Int.toNat_of_nonneg h1]
  have h2 : -(k : Int) < n.tmod k ∧ n.tmod k < k := by
    have a := Int.tmod_lt_of_pos n (show (0 : Int) < k by omega)
    have b := Int.lt_tmod_of_pos n (show (0 : Int) < k by omega)
    omega
  rw [Int.tmod_eq_emod_of_nonneg (by omega), Int.add_emod_right, Int.tmod_def]
  rw [show n - ↑k * n.tdiv ↑k = n + ↑k * (-(n.tdiv ↑k)) by rw [Int.mul_neg]; omega, Int.add_mul_emod_self_left]
theorem tmod2 (n : Int) : (n.tmod 2 != 0) = decide (modI n 2 = 1) := by
  unfold modI
  rw [Bool.eq_iff_iff, bne_iff_ne, decide_eq_true_eq]
  have h1 := Int.emod_add_mul_ediv n 2
  have h2 := Int.tmod_add_mul_tdiv n 2
  have h3 : -2 < n.tmod 2 ∧ n.tmod 2 < 2 := ⟨Int.lt_tmod_of_pos n (by omega), Int.tmod_lt_of_pos n (by omega)⟩
  have h4 : 0 ≤ n % 2 ∧ n % 2 < 2 := ⟨Int.emod_nonneg n (by omega), Int.emod_lt_of_pos n (by omega)⟩
  simp only [Int.cast_ofNat_Int] at *
  constructor <;> intro h <;> omega

theorem Modulo_ct (n : Int) (k : Nat) (w : World) (hk : 0 < k) (hk2 : k ≤ 2305843009213693951) :
    Fun Tryz.prog 28 [.int .i64 n, .int .i64 ((k : Nat) : Int)] w fun v w' => v = .int .i64 ((modI n k : Nat) : Int) ∧ Fresh w w' [] := by
 have h1 := Int.tmod_lt_of_pos n (show (0 : Int) < k by omega)
 have h2 := Int.lt_tmod_of_pos n (show (0 : Int) < k by omega)
 refine fun_of_sw Tryz.func28 rfl 12 rfl rfl ?_
 have hH := Hp.start w
 refine sw_sr ?_
 refine glo 1 [(0, .int .i64 n), (1, Ni k)] ?_
 refine gl_dn rfl ?_
 refine sw_sr ?_
 refine glo 2 [(1, Ni k), (5, .int .i64 n), (6, Ni k)] ?_
 refine gl_q rfl rfl rfl (rd_remI (a := n) (b := k) rfl rfl hk) ?_
 refine glo 2 [(1, Ni k), (9, .int .i64 (IntKind.i64.wrap ((Int.tmod n ((k : Nat) : Int)) + ((k : Nat) : Int))))] ?_
 refine gl_cv 9 (.int .i64 ((Int.tmod n ((k : Nat) : Int)) + ((k : Nat) : Int))) (cv_i64 (by omega)) rfl ?_
 refine glo 1 [(9, .int .i64 ((Int.tmod n ((k : Nat) : Int)) + ((k : Nat) : Int))), (10, Ni k)] ?_
 refine gl_q rfl rfl rfl (rd_remI (a := (Int.tmod n ((k : Nat) : Int) + ((k : Nat) : Int))) (b := k) rfl rfl hk) ?_
 refine gl_cv 11 (Ni (modI n k)) (by rw [tmod_modI n k hk]) rfl ?_
 refine glo 1 [(4, Ni (modI n k))] ?_
 refine gl_dn rfl ?_
 refine sw_ret ?_
 refine ret1 rfl rfl  ?_
 exact ⟨rfl, hH.fresh⟩
theorem Cut0_ct (db ab : Nat) (M : Value) (fs : List Fil) (pw : Bool) (w : World) (hM : Mine w [.blk db 70 [M, .bool pw, arV none ab], .grp (armO none ab)]) :
    Fun Tryz.prog 27 [.pointer (some ⟨db, 0, none⟩)] w fun v w' => v = .tuple #[.int .i64 (cutD (⟨fs, pw, none⟩ : Dsk)).2.2, .bool (cutD (⟨fs, pw, none⟩ : Dsk)).2.1] ∧ Turn w w' [.blk db 70 [M, .bool pw, arV none ab], .grp (armO none ab)] [.blk db 70 [M, .bool (cutD (⟨fs, pw, none⟩ : Dsk)).1.off, arV ((cutD (⟨fs, pw, none⟩ : Dsk)).1.ar) ab], .grp (armO ((cutD (⟨fs, pw, none⟩ : Dsk)).1.ar) ab)] := by
 refine fun_of_sw Tryz.func27 rfl 42 rfl rfl ?_
 have hH : Hp w w (off w (blksOf [.blk db 70 [M, .bool pw, arV none ab], .grp (armO none ab)])) (blksOf [.blk db 70 [M, .bool pw, arV none ab], .grp (armO none ab)]) ([.blk db 70 [M, .bool pw, arV none ab]] ++ armO none ab) := ((Hp.start_mine hM).pick [1, 0] (by kernel_rfl) rfl).open_.perm List.perm_append_comm
 replace hH : Hp w w _ _ [.blk db 70 [M, .bool pw, .pointer none]] := hH
 refine sw_sr ?_
 refine glo 2 [(0, Pp db 0)] ?_
 refine gl_dn rfl ?_
 refine sw_seq ?_
 refine sw_sr ?_
 refine glo 3 [(0, Pp db 0), (7, Pp db 2)] ?_
 refine gl_q rfl rfl rfl (rd_loadK 0 (by kernel_rfl) hH rfl rfl rfl) ?_
 refine glo 1 [(0, Pp db 0), (9, .bool true)] ?_
 refine gl_dn rfl ?_
 refine sw_true rfl rfl ?_
 refine sw_sr ?_
 refine glo 2 [(2, .int .i64 0), (3, .bool false)] ?_
 refine gl_dn rfl ?_
 refine sw_ret ?_
 refine thR ?_
 refine ret2 rfl rfl rfl  ?_
 have h1 : Hp w w _ _ ([.blk db 70 [M, .bool pw, .pointer none]] ++ armO none ab) := hH
 have h2 := h1.perm List.perm_append_comm
 exact ⟨rfl, (h2.close.pick [1, 0] (by kernel_rfl) rfl).turned⟩
theorem Cut1_ct (db ab : Nat) (M : Value) (fs : List Fil) (pw : Bool) (p : Int) (w : World) (hM : Mine w [.blk db 70 [M, .bool pw, arV (some (0, p)) ab], .grp (armO (some (0, p)) ab)]) :
    Fun Tryz.prog 27 [.pointer (some ⟨db, 0, none⟩)] w fun v w' => v = .tuple #[.int .i64 (cutD (⟨fs, pw, some (0, p)⟩ : Dsk)).2.2, .bool (cutD (⟨fs, pw, some (0, p)⟩ : Dsk)).2.1] ∧ Turn w w' [.blk db 70 [M, .bool pw, arV (some (0, p)) ab], .grp (armO (some (0, p)) ab)] [.blk db 70 [M, .bool (cutD (⟨fs, pw, some (0, p)⟩ : Dsk)).1.off, arV ((cutD (⟨fs, pw, some (0, p)⟩ : Dsk)).1.ar) ab], .grp (armO ((cutD (⟨fs, pw, some (0, p)⟩ : Dsk)).1.ar) ab)] := by
 refine fun_of_sw Tryz.func27 rfl 42 rfl rfl ?_
 have hH : Hp w w (off w (blksOf [.blk db 70 [M, .bool pw, arV (some (0, p)) ab], .grp (armO (some (0, p)) ab)])) (blksOf [.blk db 70 [M, .bool pw, arV (some (0, p)) ab], .grp (armO (some (0, p)) ab)]) ([.blk db 70 [M, .bool pw, arV (some (0, p)) ab]] ++ armO (some (0, p)) ab) := ((Hp.start_mine hM).pick [1, 0] (by kernel_rfl) rfl).open_.perm List.perm_append_comm
 replace hH : Hp w w _ _ [.blk db 70 [M, .bool pw, Pp ab 0], .blk ab 124 [.int .i64 0, .int .i64 p]] := hH
 refine sw_sr ?_
 refine glo 2 [(0, Pp db 0)] ?_
 refine gl_dn rfl ?_
 refine sw_seq ?_
 refine sw_sr ?_
 refine glo 3 [(0, Pp db 0), (7, Pp db 2)] ?_
 refine gl_q rfl rfl rfl (rd_loadK 0 (by kernel_rfl) hH rfl rfl rfl) ?_
 refine glo 1 [(0, Pp db 0), (9, .bool false)] ?_
 refine gl_dn rfl ?_
 refine sw_false rfl rfl ?_
 refine sw_skip ?_
 refine sw_next ?_
 refine sw_seq ?_
 refine sw_sr ?_
 refine glo 3 [(0, Pp db 0), (12, Pp db 2)] ?_
 refine gl_q rfl rfl rfl (rd_loadK 0 (by kernel_rfl) hH rfl rfl rfl) ?_
 refine glo 2 [(0, Pp db 0), (15, Pp ab 0)] ?_
 refine gl_q rfl rfl rfl (rd_loadK 1 (by kernel_rfl) hH rfl rfl rfl) ?_
 refine glo 1 [(0, Pp db 0), (17, .bool false)] ?_
 refine gl_dn rfl ?_
 refine sw_false rfl rfl ?_
 refine sw_skip ?_
 refine sw_next ?_
 refine sw_sr ?_
 refine glo 3 [(0, Pp db 0), (30, Pp db 2)] ?_
 refine gl_q rfl rfl rfl (rd_loadK 0 (by kernel_rfl) hH rfl rfl rfl) ?_
 refine glo 2 [(0, Pp db 0), (33, Pp ab 1)] ?_
 refine gl_q rfl rfl rfl (rd_loadK 1 (by kernel_rfl) hH rfl rfl rfl) ?_
 refine glo 1 [(0, Pp db 0), (4, .int .i64 p)] ?_
 refine gl_dn rfl ?_
 refine sw_sr ?_
 refine glo 4 [(4, .int .i64 p), (36, Pp db 0), (38, Pp db 2)] ?_
 refine gl_st (st_storeK (v := .pointer none) 0 rfl rfl rfl hH rfl rfl rfl (by kernel_rfl) rfl (by simp) ?_)
 clear hH; intro w1 hH
 refine glo 2 [(4, .int .i64 p), (40, Pp db 1)] ?_
 refine gl_st (st_storeK (v := .bool true) 0 rfl rfl rfl hH rfl rfl rfl (by kernel_rfl) rfl (by simp) ?_)
 clear hH; intro w2 hH
 refine gl_dn rfl ?_
 refine sw_sr ?_
 refine glo 3 [(2, .int .i64 p), (3, .bool true)] ?_
 refine gl_dn rfl ?_
 refine sw_ret ?_
 refine ret2 rfl rfl rfl  ?_
 replace hH : Hp w w2 _ _ [_] := (hH.sublist (slk sln))
 have h1 : Hp w w2 _ _ ([.blk db 70 [M, .bool true, .pointer none]] ++ armO none ab) := hH
 have h2 := h1.perm List.perm_append_comm
 exact ⟨rfl, (h2.close.pick [1, 0] (by kernel_rfl) rfl).turned⟩
theorem Cut2_ct (db ab : Nat) (M : Value) (fs : List Fil) (pw : Bool) (a : Nat) (p : Int) (w : World) (hM : Mine w [.blk db 70 [M, .bool pw, arV (some (a + 1, p)) ab], .grp (armO (some (a + 1, p)) ab)]) (ha : a + 1 ≤ 9223372036854775807) :
    Fun Tryz.prog 27 [.pointer (some ⟨db, 0, none⟩)] w fun v w' => v = .tuple #[.int .i64 (cutD (⟨fs, pw, some (a + 1, p)⟩ : Dsk)).2.2, .bool (cutD (⟨fs, pw, some (a + 1, p)⟩ : Dsk)).2.1] ∧ Turn w w' [.blk db 70 [M, .bool pw, arV (some (a + 1, p)) ab], .grp (armO (some (a + 1, p)) ab)] [.blk db 70 [M, .bool (cutD (⟨fs, pw, some (a + 1, p)⟩ : Dsk)).1.off, arV ((cutD (⟨fs, pw, some (a + 1, p)⟩ : Dsk)).1.ar) ab], .grp (armO ((cutD (⟨fs, pw, some (a + 1, p)⟩ : Dsk)).1.ar) ab)] := by
 refine fun_of_sw Tryz.func27 rfl 42 rfl rfl ?_
 have hH : Hp w w (off w (blksOf [.blk db 70 [M, .bool pw, arV (some (a + 1, p)) ab], .grp (armO (some (a + 1, p)) ab)])) (blksOf [.blk db 70 [M, .bool pw, arV (some (a + 1, p)) ab], .grp (armO (some (a + 1, p)) ab)]) ([.blk db 70 [M, .bool pw, arV (some (a + 1, p)) ab]] ++ armO (some (a + 1, p)) ab) := ((Hp.start_mine hM).pick [1, 0] (by kernel_rfl) rfl).open_.perm List.perm_append_comm
 replace hH : Hp w w _ _ [.blk db 70 [M, .bool pw, Pp ab 0], .blk ab 124 [Ni (a + 1), .int .i64 p]] := hH
 refine sw_sr ?_
 refine glo 2 [(0, Pp db 0)] ?_
 refine gl_dn rfl ?_
 refine sw_seq ?_
 refine sw_sr ?_
 refine glo 3 [(0, Pp db 0), (7, Pp db 2)] ?_
 refine gl_q rfl rfl rfl (rd_loadK 0 (by kernel_rfl) hH rfl rfl rfl) ?_
 refine glo 1 [(0, Pp db 0), (9, .bool false)] ?_
 refine gl_dn rfl ?_
 refine sw_false rfl rfl ?_
 refine sw_skip ?_
 refine sw_next ?_
 refine sw_seq ?_
 refine sw_sr ?_
 refine glo 3 [(0, Pp db 0), (12, Pp db 2)] ?_
 refine gl_q rfl rfl rfl (rd_loadK 0 (by kernel_rfl) hH rfl rfl rfl) ?_
 refine glo 2 [(0, Pp db 0), (15, Pp ab 0)] ?_
 refine gl_q rfl rfl rfl (rd_loadK 1 (by kernel_rfl) hH rfl rfl rfl) ?_
 refine glo 1 [(0, Pp db 0), (17, .bool (decide (((a + 1 : Nat) : Int) > (0 : Int))))] ?_
 refine gl_dn rfl ?_
 refine sw_cond rfl rfl (fun hc2 => ?_) (fun hc2 => ?_)
 rotate_left
 · exact absurd hc2 (by simp only [decide_eq_false_iff_not, beq_eq_false_iff_ne, bne_eq_false_iff_eq, ne_eq, Decidable.not_not, Int.not_lt, Int.not_le]; omega)
 clear hc2
 refine sw_sr ?_
 refine glo 3 [(20, Pp db 2)] ?_
 refine gl_q rfl rfl rfl (rd_loadK 0 (by kernel_rfl) hH rfl rfl rfl) ?_
 refine glo 2 [(21, Pp ab 0), (23, Pp ab 0)] ?_
 refine gl_q rfl rfl rfl (rd_loadK 1 (by kernel_rfl) hH rfl rfl rfl) ?_
 refine glo 1 [(21, Pp ab 0), (25, .int .i64 (IntKind.i64.wrap (((a + 1 : Nat) : Int) - 1)))] ?_
 refine gl_cv 25 (Ni a) (cv_i64 (by omega)) rfl ?_
 refine glo 2 [(25, Ni a), (27, Pp ab 0)] ?_
 refine gl_st (st_storeK (v := Ni a) 1 rfl rfl rfl hH rfl rfl rfl (by kernel_rfl) rfl (by simp) ?_)
 clear hH; intro w1 hH
 refine gl_dn rfl ?_
 refine sw_sr ?_
 refine glo 2 [(2, .int .i64 0), (3, .bool false)] ?_
 refine gl_dn rfl ?_
 refine sw_ret ?_
 refine thR ?_
 refine ret2 rfl rfl rfl  ?_
 have h1 : Hp w w1 _ _ ([.blk db 70 [M, .bool pw, Pp ab 0]] ++ armO (some (a, p)) ab) := hH
 have h2 := h1.perm List.perm_append_comm
 exact ⟨rfl, (h2.close.pick [1, 0] (by kernel_rfl) rfl).turned⟩
theorem Cut_ct (db ab : Nat) (M : Value) (D D2 : Dsk) (cu : Bool) (pt : Int) (w : World) (hc : cutD D = (D2, cu, pt)) (hA : ArOk D.ar) (hM : Mine w [.blk db 70 [M, .bool D.off, arV D.ar ab], .grp (armO D.ar ab)]) :
    Fun Tryz.prog 27 [.pointer (some ⟨db, 0, none⟩)] w fun v w' => v = .tuple #[.int .i64 pt, .bool cu] ∧
      Turn w w' [.blk db 70 [M, .bool D.off, arV D.ar ab], .grp (armO D.ar ab)] [.blk db 70 [M, .bool D2.off, arV D2.ar ab], .grp (armO D2.ar ab)] := by
  have h1 : cutD D = (D2, cu, pt) := hc
  have e1 : D2 = (cutD D).1 := by rw [h1]
  have e2 : cu = (cutD D).2.1 := by rw [h1]
  have e3 : pt = (cutD D).2.2 := by rw [h1]
  subst e1 e2 e3
  obtain ⟨fs, pw, ar⟩ := D
  match ar, hA, hM with
  | none, _, hM => exact Cut0_ct db ab M fs pw w hM
  | some (0, p), _, hM => exact Cut1_ct db ab M fs pw p w hM
  | some (a + 1, p), hA, hM => exact Cut2_ct db ab M fs pw a p w hM (hA _ _ rfl)

theorem At_ct (db mb : Nat) (av : Value) (pw : Bool) (es : List PE) (nm : List UInt8) (w : World) (hs : nm.length ≤ 140737488355328) (hM : Mine w [.blk db 70 [.map (some mb), .bool pw, av], .smap mb (kvE es)]) :
    Fun Tryz.prog 26 [.pointer (some ⟨db, 0, none⟩), .string (bs nm)] w fun v w' => v = .tuple #[atV pw es nm, errV (mayQ pw es nm)] ∧ Turn w w' [.blk db 70 [.map (some mb), .bool pw, av], .smap mb (kvE es)] [.blk db 70 [.map (some mb), .bool pw, av], .smap mb (kvE es)] := by
 refine fun_of_sw Tryz.func26 rfl 32 rfl rfl ?_
 have hH := Hp.start_mine hM
 refine sw_sr ?_
 refine glo 2 [(0, Pp db 0), (1, .string (bs nm))] ?_
 refine gl_dn rfl ?_
 refine sw_seq ?_
 refine sw_block ?_
 refine sw_sr ?_
 refine glo 3 [(0, Pp db 0), (1, .string (bs nm)), (9, Pp db 1)] ?_
 refine gl_q rfl rfl rfl (rd_loadK 0 (by kernel_rfl) hH rfl rfl rfl) ?_
 refine glo 1 [(0, Pp db 0), (1, .string (bs nm)), (6, .bool pw)] ?_
 refine gl_dn rfl ?_
 refine sw_cond rfl rfl (fun hc1 => ?_) (fun hc1 => ?_)
 ·
  refine sw_sr ?_
  refine glo 3 [(4, .pointer none), (5, .iface 38 (.int .i64 80))] ?_
  refine gl_dn rfl ?_
  refine sw_ret ?_
  refine bkR ?_
  refine thR ?_
  refine ret2 rfl rfl rfl  ?_
  have hm : mayQ pw es nm = 80 := by unfold mayQ; rw [if_pos hc1]
  exact ⟨by unfold atV; rw [hm]; rfl, hH.turned⟩
 refine sw_sr ?_
 refine glo 1 [(0, Pp db 0), (1, .string (bs nm)), (13, .string (bs nm))] ?_
 refine gl_st (st_call rfl rfl rfl (by kernel_rfl) rfl (LexName_ct nm _ hs) ?_)
 rintro _ w1 ⟨rfl, hF2⟩
 replace hH := hH.call hF2; clear hF2
 refine glo 2 [(0, Pp db 0), (1, .string (bs nm)), (12, .bool (!(nameB nm)))] ?_
 refine gl_dn rfl ?_
 refine sw_cond rfl rfl (fun hc2 => ?_) (fun hc2 => ?_)
 ·
  try simp only [Bool.not_eq_true'] at hc2
  have hbad := hc2
  refine sw_sr ?_
  refine glo 3 [(4, .pointer none), (5, .iface 38 (.int .i64 1))] ?_
  refine gl_dn rfl ?_
  refine sw_ret ?_
  refine bkR ?_
  refine thR ?_
  refine ret2 rfl rfl rfl  ?_
  have hb : nameB nm = false := by simpa using hbad
  have hm : mayQ pw es nm = 1 := by unfold mayQ; rw [if_neg (by rw [hc1]; simp), if_pos hb]
  exact ⟨by unfold atV; rw [hm]; rfl, hH.turned⟩
 try simp only [Bool.not_eq_false'] at hc2
 have hgood := hc2
 refine sw_sr ?_
 refine glo 3 [(0, Pp db 0), (1, .string (bs nm)), (20, Pp db 0)] ?_
 refine gl_q rfl rfl rfl (rd_loadK 0 (by kernel_rfl) hH rfl rfl rfl) ?_
 refine glo 1 [(0, Pp db 0), (1, .string (bs nm)), (21, .map (some mb)), (22, .string (bs nm))] ?_
 refine gl_q rfl rfl rfl (rd_smget (kt := 9) (e := 73) (zv := .pointer none) 1 (by kernel_rfl) (by kernel_rfl) (by kernel_rfl) hH rfl rfl nm rfl) ?_
 refine gl_cv 23 (fV es nm) (fV_get es nm) rfl ?_
 refine gl_q rfl rfl rfl (rd_pnil_eql (by kernel_rfl) rfl rfl (fV_nil es nm)) ?_
 refine glo 1 [(0, Pp db 0), (1, .string (bs nm)), (17, .bool (decide (¬ ixE es nm < es.length)))] ?_
 refine gl_dn rfl ?_
 refine sw_cond rfl rfl (fun hc3 => ?_) (fun hc3 => ?_)
 ·
  replace hc3 := of_decide_eq_true hc3
  refine sw_sr ?_
  refine glo 3 [(4, .pointer none), (5, .iface 38 (.int .i64 81))] ?_
  refine gl_dn rfl ?_
  refine sw_ret ?_
  refine bkR ?_
  refine thR ?_
  refine ret2 rfl rfl rfl  ?_
  have hb : ¬ nameB nm = false := by simpa using hgood
  have hm : mayQ pw es nm = 81 := by unfold mayQ; rw [if_neg (by rw [hc1]; simp), if_neg hb, if_neg hc3]
  exact ⟨by unfold atV; rw [hm]; rfl, hH.turned⟩
 replace hc3 := Decidable.not_not.1 (of_decide_eq_false hc3)
 refine sw_skip ?_
 refine bkN ?_
 refine sw_next ?_
 refine sw_sr ?_
 refine glo 3 [(1, .string (bs nm)), (28, Pp db 0)] ?_
 refine gl_q rfl rfl rfl (rd_loadK 0 (by kernel_rfl) hH rfl rfl rfl) ?_
 refine glo 1 [(29, .map (some mb)), (30, .string (bs nm))] ?_
 refine gl_q rfl rfl rfl (rd_smget (kt := 9) (e := 73) (zv := .pointer none) 1 (by kernel_rfl) (by kernel_rfl) (by kernel_rfl) hH rfl rfl nm rfl) ?_
 refine gl_cv 31 (fV es nm) (fV_get es nm) rfl ?_
 refine glo 2 [(4, fV es nm), (5, .nilIface)] ?_
 refine gl_dn rfl ?_
 refine sw_ret ?_
 refine ret2 rfl rfl rfl  ?_
 have hb : ¬ nameB nm = false := by simpa using hgood
 have hm : mayQ pw es nm = 0 := by unfold mayQ; rw [if_neg (by rw [hc1]; simp), if_neg hb, if_pos hc3]
 exact ⟨by unfold atV; rw [hm]; rfl, hH.turned⟩
theorem SClone_ct (vb : Value) (b : List UInt8) (w : World) (hb : RB w.cell? vb b) (hl : b.length ≤ 140737488355328) :
    Fun Tryz.prog 55 [vb] w fun v w' => ∃ v1, v = v1 ∧ Fresh w w' [.row v1 5 1 b.length (bv b)] := by
 obtain ⟨Ab, cb, rfl, hb1, hb2⟩ := hb.row.form
 refine fun_of_sw Tryz.func55 rfl 8 rfl rfl ?_
 have hH := Hp.start w
 refine sw_sr ?_
 refine glo 1 [(0, .slice Ab b.length cb)] ?_
 refine gl_dn rfl ?_
 refine sw_seq ?_
 refine sw_sr ?_
 refine glo 1 [(0, .slice Ab b.length cb), (3, .slice Ab b.length cb)] ?_
 refine gl_q rfl rfl rfl (rd_snil_eql (e := 5) (by kernel_rfl) rfl rfl) ?_
 refine gl_dn rfl ?_
 refine sw_cond rfl rfl (fun hc1 => ?_) (fun hc1 => ?_)
 ·
  refine sw_sr ?_
  refine glo 1 [(2, .slice none 0 0)] ?_
  refine gl_dn rfl ?_
  refine sw_ret ?_
  refine thR ?_
  refine ret1 rfl rfl  ?_
  have hz : Ab = none := by simpa using hc1
  subst hz
  obtain rfl := hb.none
  exact ⟨_, rfl, (hH.nilRow 5 1).fresh⟩
 refine sw_skip ?_
 refine sw_next ?_
 refine sw_sr ?_
 refine gl_st (st_buildS0 (e := 5) (m := 1) rfl rfl rfl (by kernel_rfl) (by kernel_rfl) hH ?_)
 clear hH; intro b1 w2 hH
 refine glo 1 [(5, .slice (some ⟨b1, 0, none⟩) 0 0), (6, .slice Ab b.length cb)] ?_
 refine gl_st (st_appH (e := 5) (zv := .int .u8 0) (m := 1) (bytes := 1) 0 rfl rfl rfl (by kernel_rfl) (by kernel_rfl) rfl (by decide) hH rfl rfl rfl (hb.row.mono hH.zin) (bv_one _) (by unfold maxLen; omega) (by omega) ?_)
 clear hH; intro v3 w4 hH
 replace hH := hH.row_eq 0 (l' := b.length) (xs' := bv b) rfl (Nat.zero_add _) (List.nil_append _)
 obtain ⟨A5, c6, rfl, hl7, hm8⟩ := hH.row_form 0 rfl
 refine glo 1 [(2, .slice A5 b.length c6)] ?_
 refine gl_dn rfl ?_
 refine sw_ret ?_
 refine ret1 rfl rfl  ?_
 exact ⟨_, rfl, (hH.sublist (slk sln)).fresh⟩
theorem DActF_ct {γ : Type} (db ab : Nat) (M : Value) (D D2 : Dsk) (pt : Int) (g : FuncId) (cap : Array Value) (x : Own) (y : γ → Own) (Zp : Zone) (w : World) (hc : cutD D = (D2, false, pt)) (hA : ArOk D.ar) (hM : Mine w [.blk db 70 [M, .bool D.off, arV D.ar ab], .grp (armO D.ar ab), x]) (hZ : Zp.le (off w (blksOf [.blk db 70 [M, .bool D.off, arV D.ar ab], .grp (armO D.ar ab), x]))) (hg : callable Tryz.prog g = true)
    (hdo : ∀ w1, Mine w1 [.blk db 70 [M, .bool D2.off, arV D2.ar ab], x] → Zp.le (off w1 (blksOf [.blk db 70 [M, .bool D2.off, arV D2.ar ab], x])) → Fun Tryz.prog g cap.toList w1 fun v w' => ∃ u, v = .tuple #[] ∧ Turn w1 w' [.blk db 70 [M, .bool D2.off, arV D2.ar ab], x] [.blk db 70 [M, .bool D2.off, arV D2.ar ab], y u]) :
    Fun Tryz.prog 75 [.pointer (some ⟨db, 0, none⟩), .func (.func g) #[] cap] w fun v w' => ∃ u, v = errV 0 ∧ Turn w w' [.blk db 70 [M, .bool D.off, arV D.ar ab], .grp (armO D.ar ab), x] [.blk db 70 [M, .bool D2.off, arV D2.ar ab], .grp (armO D2.ar ab), y u] := by
 refine fun_of_sw Tryz.func75 rfl 23 rfl rfl ?_
 have hH := Hp.start_mine hM
 refine sw_sr ?_
 refine glo 1 [(0, Pp db 0), (1, .func (.func g) #[] cap)] ?_
 refine gl_dn rfl ?_
 refine sw_sr ?_
 refine glo 1 [(1, .func (.func g) #[] cap), (8, Pp db 0)] ?_
 replace hH : Hp w w _ _ ([_, _] ++ [_]) := hH
 refine gl_st (st_call rfl rfl rfl (by kernel_rfl) rfl (Cut_ct _ ab _ D D2 false pt _ hc hA hH.mine) ?_)
 rintro _ w1 ⟨rfl, hF2⟩
 replace hH := hH.turns hF2; clear hF2
 replace hH : Hp w w1 _ _ [_, _, _] := hH
 refine glo 5 [(1, .func (.func g) #[] cap), (5, .int .i64 pt), (6, .bool false)] ?_
 refine gl_dn rfl ?_
 refine sw_seq ?_
 refine sw_sr ?_
 refine glo 7 [(1, .func (.func g) #[] cap), (6, .bool false), (18, .bool true)] ?_
 refine gl_dn rfl ?_
 refine sw_true rfl rfl ?_
 refine sw_region ?_
 refine glo 1 [(6, .bool false), (19, .func (.func g) #[] cap)] ?_
 replace hH : Hp w w1 _ _ ([_, _] ++ [_]) := hH.fr2
 refine gl_st (st_callv rfl rfl rfl hg rfl rfl (hdo _ hH.mine (hZ.trans hH.zoff)) ?_)
 rintro _ w3 ⟨u, rfl, hF4⟩
 replace hH := hH.turns hF4; clear hF4
 replace hH : Hp w w3 _ _ [_, _, _] := hH
 refine gl_done rfl ?_
 refine sw_next ?_
 refine sw_seq ?_
 refine sw_sr ?_
 refine glo 1 [(21, .bool false)] ?_
 refine gl_dn rfl ?_
 refine sw_false rfl rfl ?_
 refine sw_skip ?_
 refine sw_next ?_
 refine sw_sr ?_
 refine glo 1 [(4, .nilIface)] ?_
 refine gl_dn rfl ?_
 refine sw_ret ?_
 refine ret1 rfl rfl  ?_
 replace hH := hH.fr3.fr2.fr3
 exact ⟨u, rfl, hH.turned⟩
theorem DActT_ct {γ : Type} (db ab : Nat) (M : Value) (D D2 : Dsk) (pt : Int) (g : FuncId) (cap : Array Value) (x : Own) (y : γ → Own) (Zp : Zone) (w : World) (hc : cutD D = (D2, true, pt)) (hA : ArOk D.ar) (hM : Mine w [.blk db 70 [M, .bool D.off, arV D.ar ab], .grp (armO D.ar ab), x]) (hZ : Zp.le (off w (blksOf [.blk db 70 [M, .bool D.off, arV D.ar ab], .grp (armO D.ar ab), x]))) (hg : callable Tryz.prog g = true)
    (hdo : ∀ w1, Mine w1 [.blk db 70 [M, .bool D2.off, arV D2.ar ab], x] → Zp.le (off w1 (blksOf [.blk db 70 [M, .bool D2.off, arV D2.ar ab], x])) → Fun Tryz.prog g cap.toList w1 fun v w' => ∃ u, v = .tuple #[] ∧ Turn w1 w' [.blk db 70 [M, .bool D2.off, arV D2.ar ab], x] [.blk db 70 [M, .bool D2.off, arV D2.ar ab], y u]) :
    Fun Tryz.prog 75 [.pointer (some ⟨db, 0, none⟩), .func (.func g) #[] cap] w fun v w' => v = errV 80 ∧ (modI pt 2 = 1 ∧ (∃ u, Turn w w' [.blk db 70 [M, .bool D.off, arV D.ar ab], .grp (armO D.ar ab), x] [.blk db 70 [M, .bool D2.off, arV D2.ar ab], .grp (armO D2.ar ab), y u]) ∨ ¬ modI pt 2 = 1 ∧ Turn w w' [.blk db 70 [M, .bool D.off, arV D.ar ab], .grp (armO D.ar ab), x] [.blk db 70 [M, .bool D2.off, arV D2.ar ab], .grp (armO D2.ar ab), x]) := by
 refine fun_of_sw Tryz.func75 rfl 23 rfl rfl ?_
 have hH := Hp.start_mine hM
 refine sw_sr ?_
 refine glo 1 [(0, Pp db 0), (1, .func (.func g) #[] cap)] ?_
 refine gl_dn rfl ?_
 refine sw_sr ?_
 refine glo 1 [(1, .func (.func g) #[] cap), (8, Pp db 0)] ?_
 replace hH : Hp w w _ _ ([_, _] ++ [_]) := hH
 refine gl_st (st_call rfl rfl rfl (by kernel_rfl) rfl (Cut_ct _ ab _ D D2 true pt _ hc hA hH.mine) ?_)
 rintro _ w1 ⟨rfl, hF2⟩
 replace hH := hH.turns hF2; clear hF2
 replace hH : Hp w w1 _ _ [_, _, _] := hH
 refine glo 5 [(1, .func (.func g) #[] cap), (5, .int .i64 pt), (6, .bool true)] ?_
 refine gl_dn rfl ?_
 refine sw_seq ?_
 refine sw_sr ?_
 refine glo 5 [(1, .func (.func g) #[] cap), (6, .bool true), (14, .bool false), (16, .int .i64 (Int.tmod pt 2))] ?_
 refine gl_cv 16 (.int .i64 (Int.tmod pt 2)) (rfl) rfl ?_
 refine glo 1 [(1, .func (.func g) #[] cap), (6, .bool true), (14, .bool false), (17, .bool ((Int.tmod pt 2) != (0 : Int)))] ?_
 refine gl_cv 17 (.bool (decide (modI pt 2 = 1))) (by rw [← tmod2]) rfl ?_
 refine glo 1 [(1, .func (.func g) #[] cap), (6, .bool true), (18, .bool (decide (modI pt 2 = 1)))] ?_
 refine gl_dn rfl ?_
 refine sw_cond rfl rfl (fun hc1 => ?_) (fun hc1 => ?_)
 ·
  try simp only [decide_eq_true_eq] at hc1
  refine sw_region ?_
  refine glo 1 [(6, .bool true), (19, .func (.func g) #[] cap)] ?_
  replace hH : Hp w w1 _ _ ([_, _] ++ [_]) := hH.fr2
  refine gl_st (st_callv rfl rfl rfl hg rfl rfl (hdo _ hH.mine (hZ.trans hH.zoff)) ?_)
  rintro _ w3 ⟨u, rfl, hF4⟩
  replace hH := hH.turns hF4; clear hF4
  replace hH : Hp w w3 _ _ [_, _, _] := hH
  refine gl_done rfl ?_
  refine sw_next ?_
  refine sw_seq ?_
  refine sw_sr ?_
  refine glo 1 [(21, .bool true)] ?_
  refine gl_dn rfl ?_
  refine sw_true rfl rfl ?_
  refine sw_sr ?_
  refine glo 2 [(4, .iface 38 (.int .i64 80))] ?_
  refine gl_dn rfl ?_
  refine sw_ret ?_
  refine thR ?_
  refine ret1 rfl rfl  ?_
  replace hH := hH.fr3.fr2.fr3
  exact ⟨rfl, .inl ⟨hc1, u, hH.turned⟩⟩
 try simp only [decide_eq_false_iff_not, Int.not_lt, Int.not_le] at hc1
 refine sw_skip ?_
 refine sw_next ?_
 refine sw_seq ?_
 refine sw_sr ?_
 refine glo 1 [(21, .bool true)] ?_
 refine gl_dn rfl ?_
 refine sw_true rfl rfl ?_
 refine sw_sr ?_
 refine glo 2 [(4, .iface 38 (.int .i64 80))] ?_
 refine gl_dn rfl ?_
 refine sw_ret ?_
 refine thR ?_
 refine ret1 rfl rfl  ?_
 replace hH := hH.fr3.fr3
 exact ⟨rfl, .inr ⟨hc1, hH.turned⟩⟩
theorem DAct_ct {γ : Type} (db ab : Nat) (M : Value) (D D2 : Dsk) (cu : Bool) (pt : Int) (g : FuncId) (cap : Array Value) (x : Own) (y : γ → Own) (Zp : Zone) (w : World) (hc : cutD D = (D2, cu, pt)) (hA : ArOk D.ar) (hM : Mine w [.blk db 70 [M, .bool D.off, arV D.ar ab], .grp (armO D.ar ab), x]) (hZ : Zp.le (off w (blksOf [.blk db 70 [M, .bool D.off, arV D.ar ab], .grp (armO D.ar ab), x]))) (hg : callable Tryz.prog g = true)
    (hdo : ∀ w1, Mine w1 [.blk db 70 [M, .bool D2.off, arV D2.ar ab], x] → Zp.le (off w1 (blksOf [.blk db 70 [M, .bool D2.off, arV D2.ar ab], x])) → Fun Tryz.prog g cap.toList w1 fun v w' => ∃ u, v = .tuple #[] ∧ Turn w1 w' [.blk db 70 [M, .bool D2.off, arV D2.ar ab], x] [.blk db 70 [M, .bool D2.off, arV D2.ar ab], y u]) :
    Fun Tryz.prog 75 [.pointer (some ⟨db, 0, none⟩), .func (.func g) #[] cap] w fun v w' => ∃ x', v = errV (if cu = true then 80 else 0) ∧ Turn w w' [.blk db 70 [M, .bool D.off, arV D.ar ab], .grp (armO D.ar ab), x] [.blk db 70 [M, .bool D2.off, arV D2.ar ab], .grp (armO D2.ar ab), x'] ∧ ((cu = false ∨ modI pt 2 = 1) ∧ (∃ u, x' = y u) ∨ ¬ (cu = false ∨ modI pt 2 = 1) ∧ x' = x) := by
  cases cu with
  | false =>
    refine (DActF_ct db ab M D D2 pt g cap x y Zp w hc hA hM hZ hg hdo).mono ?_
    rintro v w' ⟨u, h1, h2⟩
    exact ⟨_, h1, h2, .inl ⟨.inl rfl, u, rfl⟩⟩
  | true =>
    refine (DActT_ct db ab M D D2 pt g cap x y Zp w hc hA hM hZ hg hdo).mono ?_
    rintro v w' ⟨h1, ⟨h2, u, h3⟩ | ⟨h2, h3⟩⟩
    · exact ⟨_, h1, h3, .inl ⟨.inr h2, u, rfl⟩⟩
    · exact ⟨_, h1, h3, .inr ⟨fun h => h.elim (fun h => by cases h) h2, rfl⟩⟩

end Go.Proofs.YtajapgjemefoiaaGreatDoor
/- Layer 18 (disk), the program's: the acts' own functions (closures), the acts; what they answer. -/
set_option maxRecDepth 100000
set_option maxHeartbeats 2000000
set_option linter.unusedVariables false
set_option linter.unusedSimpArgs false
namespace Go.Proofs.YtajapgjemefoiaaGreatDoor
open Go.RowKit Go.SW
abbrev f1O (e : PE) : Own := .blk e.fb 80 [e.v, .int .i64 ((e.sure : Nat) : Int)]
abbrev f2O (e : PE) : Own := .vw e.v 5 e.b
abbrev restO (es : List PE) (i : Nat) : Own := .grp ((es.map fun e => Own.grp (filO e)).eraseIdx i)
section
variable {w w0 : World} {z : Zone} {F : List Nat} {r : List Own}
theorem fil_out {es : List PE} {i : Nat} {e : PE} (he : es[i]? = some e) (h : Hp w0 w z F (filsO es :: r)) : Hp w0 w z F (f1O e :: f2O e :: restO es i :: r) := by
  have h1 := Hp.out (l := es.map fun e => Own.grp (filO e)) h i (o := .grp (filO e)) (by rw [List.getElem?_map, he]; rfl)
  exact h1.open_
theorem fil_in {es : List PE} {i : Nat} {e : PE} (hi : i < es.length) (h : Hp w0 w z F (f1O e :: f2O e :: restO es i :: r)) : Hp w0 w z F (filsO (es.set i e) :: r) := by
  have h0 : Hp w0 w z F (filO e ++ (restO es i :: r)) := h
  have h1 := Hp.into (l := es.map fun e => Own.grp (filO e)) (i := i) (by simpa using hi) h0.close
  refine h1.cast ?_
  unfold filsO
  rw [List.map_set]
theorem fil_del {es : List PE} {i : Nat} (hi : i < es.length) (h : Hp w0 w z F (filsO es :: r)) : Hp w0 w z F (filsO (es.eraseIdx i) :: r) := by
  have h1 := Hp.out (l := es.map fun e => Own.grp (filO e)) h i (o := .grp (filO es[i])) (by rw [List.getElem?_map, List.getElem?_eq_getElem hi]; rfl)
  have h2 := h1.sublist (List.sublist_cons_self _ _)
  refine h2.cast ?_
  unfold filsO
  rw [map_eraseIdx]
theorem fil_add {es : List PE} {e : PE} (h : Hp w0 w z F (f1O e :: f2O e :: filsO es :: r)) : Hp w0 w z F (filsO (es ++ [e]) :: r) := by
  have h0 : Hp w0 w z F (filO e ++ (filsO es :: r)) := h
  have h1 := (h0.close.perm (List.Perm.swap _ _ _)).merge
  refine h1.cast ?_
  unfold filsO
  rw [List.map_append]; rfl
theorem fil_put {es : List PE} {e : PE} (h : Hp w0 w z F (f1O e :: f2O e :: filsO es :: r)) : Hp w0 w z F (filsO (putE es e) :: r) := by
  unfold putE
  split
  · rename_i hi
    have h1 : Hp w0 w z F ([f1O e, f2O e] ++ (filsO es :: r)) := h
    have h2 : Hp w0 w z F (filsO es :: (r ++ [f1O e, f2O e])) := h1.perm List.perm_append_comm
    obtain ⟨e0, h0⟩ : ∃ e0, es[ixE es e.name]? = some e0 := ⟨_, List.getElem?_eq_getElem hi⟩
    have h3 := (fil_out h0 h2).sublist ((List.sublist_cons_self _ _).trans (List.sublist_cons_self _ _))
    have h4 : Hp w0 w z F ((restO es (ixE es e.name) :: r) ++ [f1O e, f2O e]) := h3
    exact fil_in hi (h4.perm List.perm_append_comm)
  · exact fil_add h
end

theorem PutDo_ct (pb qb nb db mb : Nat) (pw : Bool) (av vp : Value) (es : List PE) (nm p : List UInt8) (Zp : Zone) (w : World) (hM : Mine w [.blk db 70 [.map (some mb), .bool pw, av], .grp [.blk pb 37 [vp], .blk qb 25 [.pointer (some ⟨db, 0, none⟩)], .blk nb 9 [.string (bs nm)], .smap mb (kvE es), filsO es]]) (hp : RB Zp vp p) (hZ : Zp.le (off w (blksOf [.blk db 70 [.map (some mb), .bool pw, av], .grp [.blk pb 37 [vp], .blk qb 25 [.pointer (some ⟨db, 0, none⟩)], .blk nb 9 [.string (bs nm)], .smap mb (kvE es), filsO es]]))) (hpl : p.length ≤ 140737488355328) :
    Fun Tryz.prog 110 [.pointer (some ⟨pb, 0, none⟩), .pointer (some ⟨qb, 0, none⟩), .pointer (some ⟨nb, 0, none⟩)] w fun v w' => ∃ u : Nat × Value, v = .tuple #[] ∧ Turn w w' [.blk db 70 [.map (some mb), .bool pw, av], .grp [.blk pb 37 [vp], .blk qb 25 [.pointer (some ⟨db, 0, none⟩)], .blk nb 9 [.string (bs nm)], .smap mb (kvE es), filsO es]] [.blk db 70 [.map (some mb), .bool pw, av], .grp [.blk pb 37 [vp], .blk qb 25 [.pointer (some ⟨db, 0, none⟩)], .blk nb 9 [.string (bs nm)], .smap mb (kvE (putE es ⟨nm, u.1, u.2, p, p.length⟩)), filsO (putE es ⟨nm, u.1, u.2, p, p.length⟩)]] := by
 have hpz := hp.mono hZ
 obtain ⟨Ap, cp, rfl, hp1, hp2⟩ := hp.row.form
 refine fun_of_sw Tryz.func110 rfl 14 rfl rfl ?_
 have hH : Hp w w (off w (blksOf [.blk db 70 [.map (some mb), .bool pw, av], .grp [.blk pb 37 [(.slice Ap p.length cp)], .blk qb 25 [.pointer (some ⟨db, 0, none⟩)], .blk nb 9 [.string (bs nm)], .smap mb (kvE es), filsO es]])) (blksOf [.blk db 70 [.map (some mb), .bool pw, av], .grp [.blk pb 37 [(.slice Ap p.length cp)], .blk qb 25 [.pointer (some ⟨db, 0, none⟩)], .blk nb 9 [.string (bs nm)], .smap mb (kvE es), filsO es]]) ([.blk pb 37 [(.slice Ap p.length cp)], .blk qb 25 [.pointer (some ⟨db, 0, none⟩)], .blk nb 9 [.string (bs nm)], .smap mb (kvE es), filsO es] ++ [.blk db 70 [.map (some mb), .bool pw, av]]) := ((Hp.start_mine hM).pick [1, 0] (by kernel_rfl) rfl).open_
 replace hH : Hp w w _ _ [.blk pb 37 [.slice Ap p.length cp], .blk qb 25 [Pp db 0], .blk nb 9 [.string (bs nm)], .smap mb (kvE es), filsO es, .blk db 70 [.map (some mb), .bool pw, av]] := hH
 refine sw_draw (by kernel_rfl) (fun w_ => Hp w w_ (off w (blksOf [.blk db 70 [.map (some mb), .bool pw, av], .grp [.blk pb 37 [(.slice Ap p.length cp)], .blk qb 25 [.pointer (some ⟨db, 0, none⟩)], .blk nb 9 [.string (bs nm)], .smap mb (kvE es), filsO es]])) (blksOf [.blk db 70 [.map (some mb), .bool pw, av], .grp [.blk pb 37 [(.slice Ap p.length cp)], .blk qb 25 [.pointer (some ⟨db, 0, none⟩)], .blk nb 9 [.string (bs nm)], .smap mb (kvE es), filsO es]]) [.blk pb 37 [.slice Ap p.length cp], .blk qb 25 [Pp db 0], .blk nb 9 [.string (bs nm)], filsO es, .blk db 70 [.map (some mb), .bool pw, av]]) ?_
 replace hH := hH.drew
 generalize { w with drawn := w.drawn + 1 } = w1 at hH ⊢
 have hS9 := hH.sublist (slk (slk (slk (slc (slk (slk sln))))))
 refine gdq 0 rfl (fun w_ hS => (rd_loadK 1 (by kernel_rfl) hS rfl rfl rfl)) hS9 PQ.body ?_
 refine gdo 2 [1,2] [(0, Pp pb 0), (2, Pp nb 0), (5, Pp db 0)] hS9 PQ.body ?_
 refine gdq 3 rfl (fun w_ hS => (rd_loadK 4 (by kernel_rfl) hS rfl rfl rfl)) hS9 PQ.body ?_
 refine gdq 4 rfl (fun w_ hS => (rd_loadK 2 (by kernel_rfl) hS rfl rfl rfl)) hS9 PQ.body ?_
 refine gdq 5 rfl (fun w_ hS => (rd_loadK 0 (by kernel_rfl) hS rfl rfl rfl)) hS9 PQ.body ?_
 refine gdk [(0, Pp pb 0), (6, .map (some mb)), (7, .string (bs nm)), (8, .slice Ap p.length cp)] ?_
 refine gdq 7 rfl (fun w_ hS => (rd_loadK 0 (by kernel_rfl) hS rfl rfl rfl)) hS9 PQ.body ?_
 refine gdq 8 rfl (fun w_ hS => (rd_len (e := 5) (by kernel_rfl) rfl)) hS9 PQ.body ?_
 refine gds 6 (st_call rfl rfl rfl (by kernel_rfl) rfl (SClone_ct _ p _ (hpz.mono hH.zin) (by omega)) ?_)
 rintro _ w4 ⟨v2, rfl, hF5⟩
 replace hH := hH.call hF5; clear hF5
 obtain ⟨A6, c7, rfl, hl8, hm9⟩ := hH.row_form 6 rfl
 replace hS9 := hH.sublist (slk (slk (slk (slc (slk (slk sln))))))
 refine ⟨hS9, ?_⟩
 refine gdk [(6, .map (some mb)), (7, .string (bs nm)), (9, .slice A6 p.length c7), (11, Ni p.length)] ?_
 refine gdo 1 [9] [(6, .map (some mb)), (7, .string (bs nm)), (12, .agg #[.slice A6 p.length c7, Ni p.length])] hS9 PQ.body ?_
 refine gds 10 (st_boxH (cs := [.slice A6 p.length c7, Ni p.length]) rfl rfl rfl rfl hH ?_)
 clear hH; intro b10 w11 hH
 replace hS9 := hH.sublist (slk (slk (slk (slc (slk (slk sln))))))
 refine ⟨hS9, ?_⟩
 refine gds 11 (st_smput (kt := 9) (e := 73) (v := Pp b10 0) 3 rfl rfl rfl (by kernel_rfl) (by kernel_rfl) hH rfl rfl nm rfl rfl ?_)
 clear hH; intro w12 hH
 replace hS9 := hH.sublist (slk (slk (slk (slc (slk (slk sln))))))
 refine ⟨hS9, ?_⟩
 refine gdn [] ?_
 refine end0 rfl ?_
 replace hH := hH.fr7
 replace hH := hH.to_vw
 replace hH := hH.fr6.fr2.fr8
 replace hH : Hp w w12 _ _ (f1O ⟨nm, b10, (.slice A6 p.length c7), p, p.length⟩ :: f2O ⟨nm, b10, (.slice A6 p.length c7), p, p.length⟩ :: filsO es :: [.blk pb 37 [.slice Ap p.length cp], .blk qb 25 [Pp db 0], .blk nb 9 [.string (bs nm)], .smap mb (kput (kvE es) nm (Pp b10 0)), .blk db 70 [.map (some mb), .bool pw, av]]) := hH
 replace hH := fil_put hH
 have hk : kput (kvE es) nm (.pointer (some ⟨b10, 0, none⟩)) = kvE (putE es ⟨nm, b10, (.slice A6 p.length c7), p, p.length⟩) := kput_kvE es ⟨nm, b10, (.slice A6 p.length c7), p, p.length⟩
 replace hH := hH.cast (os' := [filsO (putE es ⟨nm, b10, (.slice A6 p.length c7), p, p.length⟩), .blk pb 37 [.slice Ap p.length cp], .blk qb 25 [Pp db 0], .blk nb 9 [.string (bs nm)], .smap mb (kvE (putE es ⟨nm, b10, (.slice A6 p.length c7), p, p.length⟩)), .blk db 70 [.map (some mb), .bool pw, av]]) (by rw [hk])
 replace hH := hH.fr6.fr2.fr6.fr6.fr6.fr6
 replace hH : Hp w w12 _ _ [_, _, _, _, _, _] := (hH.sublist (slk (slk (slk (slk (slk (slk sln)))))))
 have h2 : Hp w w12 _ _ ([.blk pb 37 [.slice Ap p.length cp], .blk qb 25 [Pp db 0], .blk nb 9 [.string (bs nm)], .smap mb (kvE (putE es ⟨nm, b10, (.slice A6 p.length c7), p, p.length⟩)), filsO (putE es ⟨nm, b10, (.slice A6 p.length c7), p, p.length⟩)] ++ [.blk db 70 [.map (some mb), .bool pw, av]]) := hH
 exact ⟨(b10, (.slice A6 p.length c7)), rfl, (h2.close.pick [1, 0] (by kernel_rfl) rfl).turned⟩
theorem RemDo_ct (qb nb db mb : Nat) (pw : Bool) (av : Value) (es : List PE) (nm : List UInt8) (w : World) (hM : Mine w [.blk db 70 [.map (some mb), .bool pw, av], .grp [.blk qb 25 [.pointer (some ⟨db, 0, none⟩)], .blk nb 9 [.string (bs nm)], .smap mb (kvE es), filsO es]]) (hi : ixE es nm < es.length) :
    Fun Tryz.prog 76 [.pointer (some ⟨qb, 0, none⟩), .pointer (some ⟨nb, 0, none⟩)] w fun v w' => ∃ u : Unit, v = .tuple #[] ∧ Turn w w' [.blk db 70 [.map (some mb), .bool pw, av], .grp [.blk qb 25 [.pointer (some ⟨db, 0, none⟩)], .blk nb 9 [.string (bs nm)], .smap mb (kvE es), filsO es]] [.blk db 70 [.map (some mb), .bool pw, av], .grp [.blk qb 25 [.pointer (some ⟨db, 0, none⟩)], .blk nb 9 [.string (bs nm)], .smap mb (kvE (es.eraseIdx (ixE es nm))), filsO (es.eraseIdx (ixE es nm))]] := by
 refine fun_of_sw Tryz.func76 rfl 7 rfl rfl ?_
 have hH : Hp w w (off w (blksOf [.blk db 70 [.map (some mb), .bool pw, av], .grp [.blk qb 25 [.pointer (some ⟨db, 0, none⟩)], .blk nb 9 [.string (bs nm)], .smap mb (kvE es), filsO es]])) (blksOf [.blk db 70 [.map (some mb), .bool pw, av], .grp [.blk qb 25 [.pointer (some ⟨db, 0, none⟩)], .blk nb 9 [.string (bs nm)], .smap mb (kvE es), filsO es]]) ([.blk qb 25 [.pointer (some ⟨db, 0, none⟩)], .blk nb 9 [.string (bs nm)], .smap mb (kvE es), filsO es] ++ [.blk db 70 [.map (some mb), .bool pw, av]]) := ((Hp.start_mine hM).pick [1, 0] (by kernel_rfl) rfl).open_
 replace hH : Hp w w _ _ [.blk qb 25 [Pp db 0], .blk nb 9 [.string (bs nm)], .smap mb (kvE es), filsO es, .blk db 70 [.map (some mb), .bool pw, av]] := hH
 refine sw_draw (by kernel_rfl) (fun w_ => Hp w w_ (off w (blksOf [.blk db 70 [.map (some mb), .bool pw, av], .grp [.blk qb 25 [.pointer (some ⟨db, 0, none⟩)], .blk nb 9 [.string (bs nm)], .smap mb (kvE es), filsO es]])) (blksOf [.blk db 70 [.map (some mb), .bool pw, av], .grp [.blk qb 25 [.pointer (some ⟨db, 0, none⟩)], .blk nb 9 [.string (bs nm)], .smap mb (kvE es), filsO es]]) [.blk qb 25 [Pp db 0], .blk nb 9 [.string (bs nm)], filsO es, .blk db 70 [.map (some mb), .bool pw, av]]) ?_
 replace hH := hH.drew
 generalize { w with drawn := w.drawn + 1 } = w1 at hH ⊢
 have hS9 := hH.sublist (slk (slk (slc (slk (slk sln)))))
 refine gdq 0 rfl (fun w_ hS => (rd_loadK 0 (by kernel_rfl) hS rfl rfl rfl)) hS9 PQ.body ?_
 refine gdo 2 [1,2] [(1, Pp nb 0), (4, Pp db 0)] hS9 PQ.body ?_
 refine gdq 3 rfl (fun w_ hS => (rd_loadK 3 (by kernel_rfl) hS rfl rfl rfl)) hS9 PQ.body ?_
 refine gdq 4 rfl (fun w_ hS => (rd_loadK 1 (by kernel_rfl) hS rfl rfl rfl)) hS9 PQ.body ?_
 refine gds 5 (st_smdel (kt := 9) (e := 73) 2 rfl rfl rfl (by kernel_rfl) (by kernel_rfl) hH rfl rfl nm rfl ?_)
 clear hH; intro w2 hH
 replace hS9 := hH.sublist (slk (slk (slc (slk (slk sln)))))
 refine ⟨hS9, ?_⟩
 refine gdk [] ?_
 refine gdn [] ?_
 refine end0 rfl ?_
 replace hH := hH.fr4
 replace hH := fil_del hi hH
 replace hH := hH.cast (os' := [filsO (es.eraseIdx (ixE es nm)), .blk qb 25 [Pp db 0], .blk nb 9 [.string (bs nm)], .smap mb (kvE (es.eraseIdx (ixE es nm))), .blk db 70 [.map (some mb), .bool pw, av]]) (by rw [kdel_kvE])
 replace hH := hH.fr5.fr2.fr5.fr5.fr5
 replace hH : Hp w w2 _ _ [_, _, _, _, _] := (hH.sublist (slk (slk (slk (slk (slk sln))))))
 have h2 : Hp w w2 _ _ ([.blk qb 25 [Pp db 0], .blk nb 9 [.string (bs nm)], .smap mb (kvE (es.eraseIdx (ixE es nm))), filsO (es.eraseIdx (ixE es nm))] ++ [.blk db 70 [.map (some mb), .bool pw, av]]) := hH
 exact ⟨(), rfl, (h2.close.pick [1, 0] (by kernel_rfl) rfl).turned⟩
end Go.Proofs.YtajapgjemefoiaaGreatDoor
/- Layer 18 (disk), the program's: the acts' own functions of Sync and Cut; what they answer. -/
set_option maxRecDepth 100000
set_option maxHeartbeats 4000000
set_option linter.unusedVariables false
set_option linter.unusedSimpArgs false
namespace Go.Proofs.YtajapgjemefoiaaGreatDoor
open Go.RowKit Go.SW

theorem SyncDo_ct (tb : Nat) (es : List PE) (i : Nat) (nm : List UInt8) (fb : Nat) (fv : Value) (b : List UInt8) (sr : Nat) (he : es[i]? = some ⟨nm, fb, fv, b, sr⟩) (h : Own) (w : World) (hM : Mine w [h, .grp [.blk tb 73 [.pointer (some ⟨fb, 0, none⟩)], filsO es]]) :
    Fun Tryz.prog 79 [.pointer (some ⟨tb, 0, none⟩)] w fun v w' => ∃ u : Unit, v = .tuple #[] ∧ Turn w w' [h, .grp [.blk tb 73 [.pointer (some ⟨fb, 0, none⟩)], filsO es]] [h, .grp [.blk tb 73 [.pointer (some ⟨fb, 0, none⟩)], filsO (es.set i ⟨nm, fb, fv, b, b.length⟩)]] := by
 refine fun_of_sw Tryz.func79 rfl 9 rfl rfl ?_
 have hH : Hp w w (off w (blksOf [h, .grp [.blk tb 73 [.pointer (some ⟨fb, 0, none⟩)], filsO es]])) (blksOf [h, .grp [.blk tb 73 [.pointer (some ⟨fb, 0, none⟩)], filsO es]]) ([.blk tb 73 [.pointer (some ⟨fb, 0, none⟩)], filsO es] ++ [h]) := ((Hp.start_mine hM).pick [1, 0] (by kernel_rfl) rfl).open_
 replace hH : Hp w w _ _ [.blk tb 73 [Pp fb 0], filsO es, h] := hH
 replace hH := hH.fr2
 replace hH := fil_out he hH
 replace hH : Hp w w _ _ [.blk fb 80 [fv, Ni sr], .vw fv 5 b, restO es i, .blk tb 73 [Pp fb 0], h] := hH
 obtain ⟨Af, cf, hv, hv1, hv2⟩ := hH.vw_form 1 rfl
 subst hv
 refine sw_draw (by kernel_rfl) (fun w_ => Hp w w_ (off w (blksOf [h, .grp [.blk tb 73 [.pointer (some ⟨fb, 0, none⟩)], filsO es]])) (blksOf [h, .grp [.blk tb 73 [.pointer (some ⟨fb, 0, none⟩)], filsO es]]) [.vw (.slice Af b.length cf) 5 b, restO es i, .blk tb 73 [Pp fb 0], h]) ?_
 replace hH := hH.drew
 generalize { w with drawn := w.drawn + 1 } = w1 at hH ⊢
 have hS9 := hH.sublist (slc (slk (slk (slk (slk sln)))))
 refine gdq 0 rfl (fun w_ hS => (rd_loadK 2 (by kernel_rfl) hS rfl rfl rfl)) hS9 PQ.body ?_
 refine gdq 1 rfl (fun w_ hS => (rd_loadK 2 (by kernel_rfl) hS rfl rfl rfl)) hS9 PQ.body ?_
 refine gdo 2 [2,3] [(1, Pp fb 0), (4, Pp fb 0)] hS9 PQ.body ?_
 refine gds 4 (st_q rfl rfl rfl (rd_loadK 0 (by kernel_rfl) hH rfl rfl rfl) ?_)
 refine ⟨hS9, ?_⟩
 refine gdq 5 rfl (fun w_ hS => (rd_len (e := 5) (by kernel_rfl) rfl)) hS9 PQ.body ?_
 refine gdo 2 [6,7] [(6, Ni b.length), (8, Pp fb 1)] hS9 PQ.body ?_
 refine gds 8 (st_storeK (v := Ni b.length) 0 rfl rfl rfl hH rfl rfl rfl (by kernel_rfl) rfl (by simp) ?_)
 clear hH; intro w2 hH
 replace hS9 := hH.sublist (slc (slk (slk (slk (slk sln)))))
 refine ⟨hS9, ?_⟩
 refine gdn [] ?_
 refine end0 rfl ?_
 replace hH : Hp w w2 _ _ (f1O ⟨nm, fb, .slice Af b.length cf, b, b.length⟩ :: f2O ⟨nm, fb, .slice Af b.length cf, b, b.length⟩ :: restO es i :: [.blk tb 73 [Pp fb 0], h]) := hH
 replace hH := fil_in (List.getElem?_eq_some_iff.1 he).1 hH
 replace hH := hH.fr3.fr2.fr3
 replace hH : Hp w w2 _ _ [_, _, _] := (hH.sublist (slk (slk (slk sln))))
 have h2 : Hp w w2 _ _ ([.blk tb 73 [Pp fb 0], filsO (es.set i ⟨nm, fb, .slice Af b.length cf, b, b.length⟩)] ++ [h]) := hH
 exact ⟨(), rfl, (h2.close.pick [1, 0] (by kernel_rfl) rfl).turned⟩
def sliceA : Value → Option Addr
  | .slice A _ _ => A
  | _ => none

theorem CutDo_ct (tb nb n : Nat) (es : List PE) (i : Nat) (nm : List UInt8) (fb : Nat) (fv : Value) (b : List UInt8) (sr : Nat) (he : es[i]? = some ⟨nm, fb, fv, b, sr⟩) (h : Own) (w : World) (hM : Mine w [h, .grp [.blk tb 73 [.pointer (some ⟨fb, 0, none⟩)], .blk nb 3 [.int .i64 ((n : Nat) : Int)], filsO es]]) (hn : n ≤ b.length) :
    Fun Tryz.prog 78 [.pointer (some ⟨tb, 0, none⟩), .pointer (some ⟨nb, 0, none⟩)] w fun v w' => ∃ u : Unit, v = .tuple #[] ∧ Turn w w' [h, .grp [.blk tb 73 [.pointer (some ⟨fb, 0, none⟩)], .blk nb 3 [.int .i64 ((n : Nat) : Int)], filsO es]] [h, .grp [.blk tb 73 [.pointer (some ⟨fb, 0, none⟩)], .blk nb 3 [.int .i64 ((n : Nat) : Int)], filsO (es.set i ⟨nm, fb, .slice (sliceA fv) n n, b.take n, min sr n⟩)]] := by
 refine fun_of_sw Tryz.func78 rfl 21 rfl rfl ?_
 have hH : Hp w w (off w (blksOf [h, .grp [.blk tb 73 [.pointer (some ⟨fb, 0, none⟩)], .blk nb 3 [.int .i64 ((n : Nat) : Int)], filsO es]])) (blksOf [h, .grp [.blk tb 73 [.pointer (some ⟨fb, 0, none⟩)], .blk nb 3 [.int .i64 ((n : Nat) : Int)], filsO es]]) ([.blk tb 73 [.pointer (some ⟨fb, 0, none⟩)], .blk nb 3 [.int .i64 ((n : Nat) : Int)], filsO es] ++ [h]) := ((Hp.start_mine hM).pick [1, 0] (by kernel_rfl) rfl).open_
 replace hH : Hp w w _ _ [.blk tb 73 [Pp fb 0], .blk nb 3 [Ni n], filsO es, h] := hH
 replace hH := hH.fr3
 replace hH := fil_out he hH
 replace hH : Hp w w _ _ [.blk fb 80 [fv, Ni sr], .vw fv 5 b, restO es i, .blk tb 73 [Pp fb 0], .blk nb 3 [Ni n], h] := hH
 obtain ⟨Af, cf, hv, hv1, hv2⟩ := hH.vw_form 1 rfl
 subst hv
 refine sw_draw (by kernel_rfl) (fun w_ => Hp w w_ (off w (blksOf [h, .grp [.blk tb 73 [.pointer (some ⟨fb, 0, none⟩)], .blk nb 3 [.int .i64 ((n : Nat) : Int)], filsO es]])) (blksOf [h, .grp [.blk tb 73 [.pointer (some ⟨fb, 0, none⟩)], .blk nb 3 [.int .i64 ((n : Nat) : Int)], filsO es]]) [.vw (.slice Af b.length cf) 5 b, restO es i, .blk tb 73 [Pp fb 0], .blk nb 3 [Ni n], h]) ?_
 replace hH := hH.drew
 generalize { w with drawn := w.drawn + 1 } = w1 at hH ⊢
 have hS9 := hH.sublist (slc (slk (slk (slk (slk (slk sln))))))
 refine gdq 0 rfl (fun w_ hS => (rd_loadK 2 (by kernel_rfl) hS rfl rfl rfl)) hS9 PQ.body ?_
 refine gdq 1 rfl (fun w_ hS => (rd_loadK 2 (by kernel_rfl) hS rfl rfl rfl)) hS9 PQ.body ?_
 refine gdq 2 rfl (fun w_ hS => (rd_loadK 2 (by kernel_rfl) hS rfl rfl rfl)) hS9 PQ.body ?_
 refine gdk [(0, Pp tb 0), (1, Pp nb 0), (2, Pp fb 0), (3, Pp fb 0), (4, Pp fb 0)] ?_
 refine gdo 2 [3,4] [(0, Pp tb 0), (1, Pp nb 0), (2, Pp fb 0), (3, Pp fb 0), (6, Pp fb 0)] hS9 PQ.body ?_
 refine gdq 6 rfl (fun w_ hS => (rd_loadK 3 (by kernel_rfl) hS rfl rfl rfl)) hS9 PQ.body ?_
 refine gdq 7 rfl (fun w_ hS => (rd_loadK 3 (by kernel_rfl) hS rfl rfl rfl)) hS9 PQ.body ?_
 refine gdq 9 rfl (fun w_ hS => (rd_loadK 2 (by kernel_rfl) hS rfl rfl rfl)) hS9 PQ.body ?_
 refine gdk [(1, Pp nb 0), (2, Pp fb 0), (3, Pp fb 0), (6, Pp fb 0), (8, Ni n), (9, Ni n), (11, Pp fb 0)] ?_
 refine gdo 2 [10,11] [(1, Pp nb 0), (2, Pp fb 0), (3, Pp fb 0), (6, Pp fb 0), (8, Ni n), (9, Ni n), (13, Pp fb 1)] hS9 PQ.body ?_
 refine gdq 13 rfl (fun w_ hS => (rd_loadK 3 (by kernel_rfl) hS rfl rfl rfl)) hS9 PQ.body ?_
 refine gd_st2 5 12 (by kernel_rfl) ?_ ?_
 ·
  refine st_q rfl rfl rfl (rd_loadK 0 (by kernel_rfl) hH rfl rfl rfl) ?_
  refine ⟨hS9, ?_⟩
  refine gdk [(2, Pp fb 0), (3, Pp fb 0), (7, .slice Af b.length cf), (8, Ni n), (9, Ni n), (13, Pp fb 1), (15, Ni n)] ?_
  refine gdq 8 rfl (fun w_ hS => (rd_cut3 (e := 5) (m := 1) (by kernel_rfl) (by kernel_rfl) rfl (.inl ⟨rfl, rfl⟩) rfl rfl (cut3_front Af b.length cf n 1 (by omega)))) hS9 PQ.body ?_
  refine gdk [(2, Pp fb 0), (3, Pp fb 0), (10, .slice Af n n), (13, Pp fb 1), (15, Ni n)] ?_
  refine gds 12 (st_q rfl rfl rfl (rd_loadK 0 (by kernel_rfl) hH rfl rfl rfl) ?_)
  refine ⟨hS9, ?_⟩
  refine gdo 1 [14] [(2, Pp fb 0), (3, Pp fb 0), (10, .slice Af n n), (14, Ni sr), (15, Ni n), (16, .int .i64 (if ((n : Nat) : Int) < ((sr : Nat) : Int) then ((n : Nat) : Int) else ((sr : Nat) : Int)))] hS9 PQ.body ?_
  refine gd_cv 16 (Ni (min sr n)) (cv_minN) rfl ?_
  refine gdo 2 [15,16] [(3, Pp fb 0), (10, .slice Af n n), (16, Ni (min sr n)), (18, Pp fb 0)] hS9 PQ.body ?_
  refine gds 17 (st_storeK (v := .slice Af n n) 0 rfl rfl rfl hH rfl rfl rfl (by kernel_rfl) rfl (by simp) ?_)
  clear hH; intro w2 hH
  replace hS9 := hH.sublist (slc (slk (slk (slk (slk (slk sln))))))
  refine ⟨hS9, ?_⟩
  refine gdo 2 [18,19] [(16, Ni (min sr n)), (20, Pp fb 1)] hS9 PQ.body ?_
  refine gds 20 (st_storeK (v := Ni (min sr n)) 0 rfl rfl rfl hH rfl rfl rfl (by kernel_rfl) rfl (by simp) ?_)
  clear hH; intro w3 hH
  replace hS9 := hH.sublist (slc (slk (slk (slk (slk (slk sln))))))
  refine ⟨hS9, ?_⟩
  refine gdn [] ?_
  refine end0 rfl ?_
  replace hH := hH.fr2
  replace hH := hH.cut_vw n (by omega)
  replace hH := hH.fr3.fr2.fr3
  replace hH : Hp w w3 _ _ (f1O ⟨nm, fb, .slice Af n n, b.take n, min sr n⟩ :: f2O ⟨nm, fb, .slice Af n n, b.take n, min sr n⟩ :: restO es i :: [.blk tb 73 [Pp fb 0], .blk nb 3 [Ni n], h]) := hH
  replace hH := fil_in (List.getElem?_eq_some_iff.1 he).1 hH
  replace hH := hH.fr4.fr2.fr4.fr4
  replace hH : Hp w w3 _ _ [_, _, _, _] := (hH.sublist (slk (slk (slk (slk sln)))))
  have h2 : Hp w w3 _ _ ([.blk tb 73 [Pp fb 0], .blk nb 3 [Ni n], filsO (es.set i ⟨nm, fb, .slice Af n n, b.take n, min sr n⟩)] ++ [h]) := hH
  exact ⟨(), rfl, (h2.close.pick [1, 0] (by kernel_rfl) rfl).turned⟩
 ·
  refine st_q rfl rfl rfl (rd_loadK 0 (by kernel_rfl) hH rfl rfl rfl) ?_
  refine ⟨hS9, ?_⟩
  refine gdk [(2, Pp fb 0), (3, Pp fb 0), (6, Pp fb 0), (8, Ni n), (9, Ni n), (14, Ni sr), (15, Ni n)] ?_
  refine gdo 1 [14] [(2, Pp fb 0), (3, Pp fb 0), (6, Pp fb 0), (8, Ni n), (9, Ni n), (14, Ni sr), (15, Ni n), (16, .int .i64 (if ((n : Nat) : Int) < ((sr : Nat) : Int) then ((n : Nat) : Int) else ((sr : Nat) : Int)))] hS9 PQ.body ?_
  refine gd_cv 16 (Ni (min sr n)) (cv_minN) rfl ?_
  refine gds 5 (st_q rfl rfl rfl (rd_loadK 0 (by kernel_rfl) hH rfl rfl rfl) ?_)
  refine ⟨hS9, ?_⟩
  refine gdq 8 rfl (fun w_ hS => (rd_cut3 (e := 5) (m := 1) (by kernel_rfl) (by kernel_rfl) rfl (.inl ⟨rfl, rfl⟩) rfl rfl (cut3_front Af b.length cf n 1 (by omega)))) hS9 PQ.body ?_
  refine gdk [(2, Pp fb 0), (3, Pp fb 0), (10, .slice Af n n), (16, Ni (min sr n))] ?_
  refine gdo 2 [15,16] [(3, Pp fb 0), (10, .slice Af n n), (16, Ni (min sr n)), (18, Pp fb 0)] hS9 PQ.body ?_
  refine gds 17 (st_storeK (v := .slice Af n n) 0 rfl rfl rfl hH rfl rfl rfl (by kernel_rfl) rfl (by simp) ?_)
  clear hH; intro w4 hH
  replace hS9 := hH.sublist (slc (slk (slk (slk (slk (slk sln))))))
  refine ⟨hS9, ?_⟩
  refine gdo 2 [18,19] [(16, Ni (min sr n)), (20, Pp fb 1)] hS9 PQ.body ?_
  refine gds 20 (st_storeK (v := Ni (min sr n)) 0 rfl rfl rfl hH rfl rfl rfl (by kernel_rfl) rfl (by simp) ?_)
  clear hH; intro w5 hH
  replace hS9 := hH.sublist (slc (slk (slk (slk (slk (slk sln))))))
  refine ⟨hS9, ?_⟩
  refine gdn [] ?_
  refine end0 rfl ?_
  replace hH := hH.fr2
  replace hH := hH.cut_vw n (by omega)
  replace hH := hH.fr3.fr2.fr3
  replace hH : Hp w w5 _ _ (f1O ⟨nm, fb, .slice Af n n, b.take n, min sr n⟩ :: f2O ⟨nm, fb, .slice Af n n, b.take n, min sr n⟩ :: restO es i :: [.blk tb 73 [Pp fb 0], .blk nb 3 [Ni n], h]) := hH
  replace hH := fil_in (List.getElem?_eq_some_iff.1 he).1 hH
  replace hH := hH.fr4.fr2.fr4.fr4
  replace hH : Hp w w5 _ _ [_, _, _, _] := (hH.sublist (slk (slk (slk (slk sln)))))
  have h2 : Hp w w5 _ _ ([.blk tb 73 [Pp fb 0], .blk nb 3 [Ni n], filsO (es.set i ⟨nm, fb, .slice Af n n, b.take n, min sr n⟩)] ++ [h]) := hH
  exact ⟨(), rfl, (h2.close.pick [1, 0] (by kernel_rfl) rfl).turned⟩
end Go.Proofs.YtajapgjemefoiaaGreatDoor
/- Layer 18 (disk), the program's: Sync, Put, Cut, Remove, Append, Read: what they answer. -/
set_option maxRecDepth 100000
set_option maxHeartbeats 2000000
set_option linter.unusedVariables false
set_option linter.unusedSimpArgs false
namespace Go.Proofs.YtajapgjemefoiaaGreatDoor
open Go.RowKit Go.SW
theorem at_zero {pw : Bool} {es : List PE} {nm : List UInt8} (h : mayQ pw es nm = 0) : ∃ fb fv b sr, es[ixE es nm]? = some ⟨nm, fb, fv, b, sr⟩ ∧ atV pw es nm = .pointer (some ⟨fb, 0, none⟩) ∧ ixE es nm < es.length := by
  have hlt : ixE es nm < es.length := by
    unfold mayQ at h
    split at h
    · omega
    split at h
    · omega
    split at h
    · assumption
    · omega
  obtain ⟨⟨nm2, fb, fv, b, sr⟩, h2, h3⟩ := ix_at hlt
  simp only at h3
  subst h3
  exact ⟨fb, fv, b, sr, h2, by unfold atV fV; rw [if_pos h, h2], hlt⟩
theorem old_of {es : List PE} {F : List Fil} (h : Rep es F) {nm : List UInt8} {fb : Nat} {fv : Value} {b : List UInt8} {sr : Nat} (he : es[ixE es nm]? = some ⟨nm, fb, fv, b, sr⟩) : oldF F nm = ⟨nm, b, sr⟩ := by
  unfold oldF
  rw [← rep_get h nm, he]; rfl
theorem doD_err {D : Dsk} {kind : Nat} {nm p : List UInt8} {n : Int} {th : Bool} (ht : decide (kind ≠ 0 ∧ kind ≠ 2) = th) (h : mayE D nm th ≠ 0) : doD D kind nm p n = (D, mayE D nm th) := by
  unfold doD
  rw [ht, if_pos h]
theorem doD_ok {D D2 : Dsk} {kind : Nat} {nm p : List UInt8} {n : Int} {th cu : Bool} {pt : Int} (ht : decide (kind ≠ 0 ∧ kind ≠ 2) = th) (h : mayE D nm th = 0) (h2 : ¬ (kind = 3 ∧ (n < 0 ∨ ((oldF D.fs nm).b.length : Int) < n))) (hc : cutD D = (D2, cu, pt)) :
    doD D kind nm p n = ({ D2 with fs := if cu = false ∨ kind = 0 ∨ modI pt 2 = 1 then doF D.fs kind nm (if cu = true ∧ kind = 0 then p.take (modI pt (p.length + 1)) else p) n.toNat else D.fs }, if cu = true then 80 else 0) := by
  unfold doD
  rw [ht, if_neg (by rw [h]; simp), if_neg h2, hc]
abbrev ownD (db mb ab : Nat) (D : Dsk) (es : List PE) : List Own := [.grp (dskO db mb ab D es)]
def ActPost (db mb ab : Nat) (D : Dsk) (es : List PE) (R : Dsk × Nat) (w : World) (v : Value) (w' : World) : Prop := ∃ es', v = errV R.2 ∧ Rep es' R.1.fs ∧ Turn w w' (ownD db mb ab D es) (ownD db mb ab R.1 es')
section
variable {w w' : World} {db mb ab : Nat} {D D2 : Dsk} {es es' : List PE} {kind : Nat} {nm p : List UInt8} {n : Int} {th cu : Bool} {pt : Int}
theorem fin_err (hR : Rep es D.fs) (ht : decide (kind ≠ 0 ∧ kind ≠ 2) = th) (e : Nat) (he : mayE D nm th = e) (h : e ≠ 0) (hT : Turn w w' (ownD db mb ab D es) (ownD db mb ab D es)) : ActPost db mb ab D es (doD D kind nm p n) w (errV e) w' := by
  subst he
  rw [doD_err ht h]
  exact ⟨es, rfl, hR, hT⟩
theorem fin_run (ht : decide (kind ≠ 0 ∧ kind ≠ 2) = th) (h : mayE D nm th = 0) (h2 : ¬ (kind = 3 ∧ (n < 0 ∨ ((oldF D.fs nm).b.length : Int) < n))) (hc : cutD D = (D2, cu, pt)) (hk : kind ≠ 0) (hrun : cu = false ∨ modI pt 2 = 1)
    (hrep : Rep es' (doF D.fs kind nm p n.toNat)) (hT : Turn w w' (ownD db mb ab D es) [.grp [hdO db mb ab D2.off D2.ar, .smap mb (kvE es'), filsO es', .grp (armO D2.ar ab)]]) : ActPost db mb ab D es (doD D kind nm p n) w (errV (if cu = true then 80 else 0)) w' := by
  rw [doD_ok ht h h2 hc]
  refine ⟨es', rfl, ?_, hT⟩
  show Rep es' (if cu = false ∨ kind = 0 ∨ modI pt 2 = 1 then doF D.fs kind nm (if cu = true ∧ kind = 0 then p.take (modI pt (p.length + 1)) else p) n.toNat else D.fs)
  rw [if_pos (hrun.elim .inl fun h => .inr (.inr h)), if_neg (fun h => hk h.2)]
  exact hrep
theorem fin_not (hR : Rep es D.fs) (ht : decide (kind ≠ 0 ∧ kind ≠ 2) = th) (h : mayE D nm th = 0) (h2 : ¬ (kind = 3 ∧ (n < 0 ∨ ((oldF D.fs nm).b.length : Int) < n))) (hc : cutD D = (D2, cu, pt)) (hk : kind ≠ 0) (hrun : ¬ (cu = false ∨ modI pt 2 = 1))
    (hT : Turn w w' (ownD db mb ab D es) [.grp [hdO db mb ab D2.off D2.ar, .smap mb (kvE es), filsO es, .grp (armO D2.ar ab)]]) : ActPost db mb ab D es (doD D kind nm p n) w (errV (if cu = true then 80 else 0)) w' := by
  rw [doD_ok ht h h2 hc]
  refine ⟨es, rfl, ?_, hT⟩
  show Rep es (if cu = false ∨ kind = 0 ∨ modI pt 2 = 1 then doF D.fs kind nm (if cu = true ∧ kind = 0 then p.take (modI pt (p.length + 1)) else p) n.toNat else D.fs)
  rw [if_neg (fun h => hrun (h.elim .inl fun h => h.elim (fun h => absurd h hk) .inr))]
  exact hR
theorem fin_arg (hR : Rep es D.fs) (h : mayE D nm true = 0) (h2 : n < 0 ∨ ((oldF D.fs nm).b.length : Int) < n) (hT : Turn w w' (ownD db mb ab D es) (ownD db mb ab D es)) : ActPost db mb ab D es (doD D 3 nm p n) w (errV 1) w' := by
  have e : doD D 3 nm p n = (D, 1) := by
    unfold doD
    rw [show decide ((3 : Nat) ≠ 0 ∧ (3 : Nat) ≠ 2) = true from rfl, if_neg (by rw [h]; simp), if_pos ⟨rfl, h2⟩]
  rw [e]
  exact ⟨es, rfl, hR, hT⟩
theorem fin_app (q : List UInt8) (h : mayE D nm false = 0) (hc : cutD D = (D2, cu, pt)) (hq : q = if cu = true then p.take (modI pt (p.length + 1)) else p) (hrep : Rep es' (doF D.fs 0 nm q 0))
    (hT : Turn w w' (ownD db mb ab D es) [.grp [hdO db mb ab D2.off D2.ar, .smap mb (kvE es'), filsO es', .grp (armO D2.ar ab)]]) : ActPost db mb ab D es (doD D 0 nm p 0) w (errV (if cu = true then 80 else 0)) w' := by
  rw [doD_ok (th := false) rfl h (fun h => absurd h.1 (by decide)) hc]
  refine ⟨es', rfl, ?_, hT⟩
  show Rep es' (if cu = false ∨ 0 = 0 ∨ modI pt 2 = 1 then doF D.fs 0 nm (if cu = true ∧ 0 = 0 then p.take (modI pt (p.length + 1)) else p) 0 else D.fs)
  rw [if_pos (.inr (.inl rfl))]
  rw [hq] at hrep
  by_cases hcu : cu = true
  · rw [if_pos ⟨hcu, rfl⟩]; rw [if_pos hcu] at hrep; exact hrep
  · rw [if_neg (fun h => hcu h.1)]; rw [if_neg hcu] at hrep; exact hrep
end
theorem errV_if {e : Nat} (h : e ≠ 0) : errV e = .iface 38 (.int .i64 ((e : Nat) : Int)) := by unfold errV errW; rw [if_neg h]
theorem at_n0 {pw : Bool} {es : List PE} {nm : List UInt8} (h : mayQ pw es nm ≠ 0) : atV pw es nm = .pointer none := by unfold atV; rw [if_neg h]
theorem at_81 {pw : Bool} {es : List PE} {nm : List UInt8} (h : mayQ pw es nm = 81) : ¬ ixE es nm < es.length := by
  intro hlt
  unfold mayQ at h
  rw [if_pos hlt] at h
  split at h
  · omega
  split at h <;> omega
theorem old_none {es : List PE} {F : List Fil} (h : Rep es F) {nm : List UInt8} (hn : ¬ ixE es nm < es.length) : oldF F nm = ⟨nm, [], 0⟩ := by
  unfold oldF
  rw [← rep_get h nm, List.getElem?_eq_none (by omega)]; rfl
theorem ff_zero {D : Dsk} {es : List PE} (hR : Rep es D.fs) {nm : List UInt8} (h : mayQ D.off es nm = 0 ∨ mayQ D.off es nm = 81) : mayE D nm false = 0 := by
  rw [mayE_ff hR]
  rcases h with h | h <;> rw [h] <;> rfl
theorem ff_err {D : Dsk} {es : List PE} (hR : Rep es D.fs) {nm : List UInt8} (h : mayQ D.off es nm ≠ 81) : mayE D nm false = mayQ D.off es nm := by rw [mayE_ff hR, if_neg h]
section
variable {w w0 : World} {z : Zone} {F : List Nat} {os : List Own}
theorem fil_own (hH : Hp w0 w z F os) (k : Nat) {es : List PE} (hk : os[k]? = some (filsO es)) {i : Nat} {e : PE} (he : es[i]? = some e) : (f1O e).at w ∧ (f2O e).at w := by
  have h : ∀ o ∈ es.map (fun e => Own.grp (filO e)), o.at w := hH.own _ (List.mem_of_getElem? hk)
  have h1 : ∀ o ∈ filO e, o.at w := h _ (List.mem_map.2 ⟨e, List.mem_of_getElem? he, rfl⟩)
  exact ⟨h1 _ List.mem_cons_self, h1 _ (List.mem_cons_of_mem _ List.mem_cons_self)⟩
theorem fil_cell0 (hH : Hp w0 w z F os) (k : Nat) {es : List PE} (hk : os[k]? = some (filsO es)) {i : Nat} {nm : List UInt8} {fb : Nat} {fv : Value} {b : List UInt8} {sr : Nat} (he : es[i]? = some ⟨nm, fb, fv, b, sr⟩) : w.cell? ⟨fb, 0, none⟩ = some fv := by
  have h : w.heap[fb]? = some (.cells #[fv, .int .i64 ((sr : Nat) : Int)] 80 (0, 0)) := (fil_own hH k hk he).1
  simp [World.cell?, h]
theorem fil_cell1 (hH : Hp w0 w z F os) (k : Nat) {es : List PE} (hk : os[k]? = some (filsO es)) {i : Nat} {nm : List UInt8} {fb : Nat} {fv : Value} {b : List UInt8} {sr : Nat} (he : es[i]? = some ⟨nm, fb, fv, b, sr⟩) : w.cell? ⟨fb, 1, none⟩ = some (.int .i64 ((sr : Nat) : Int)) := by
  have h : w.heap[fb]? = some (.cells #[fv, .int .i64 ((sr : Nat) : Int)] 80 (0, 0)) := (fil_own hH k hk he).1
  simp [World.cell?, h]
theorem fil_rb (hH : Hp w0 w z F os) (k : Nat) {es : List PE} (hk : os[k]? = some (filsO es)) {i : Nat} {nm : List UInt8} {fb : Nat} {fv : Value} {b : List UInt8} {sr : Nat} (he : es[i]? = some ⟨nm, fb, fv, b, sr⟩) : RB w.cell? fv b := vw_row (fil_own hH k hk he).2
end
theorem good_at {es : List PE} {F : List Fil} {M : Nat} (hG : Good F M) (hR : Rep es F) {i : Nat} {nm : List UInt8} {fb : Nat} {fv : Value} {b : List UInt8} {sr : Nat} (he : es[i]? = some ⟨nm, fb, fv, b, sr⟩) : b.length ≤ M ∧ sr ≤ b.length ∧ nm.length ≤ 32 := by
  have h : (⟨nm, b, sr⟩ : Fil) ∈ F := hR.perm.mem_iff.1 (List.mem_map.2 ⟨_, List.mem_of_getElem? he, rfl⟩)
  exact ⟨hG.short _ h, hG.sure _ h, hG.nm _ h⟩

theorem DPut_ct (db mb ab : Nat) (D : Dsk) (es : List PE) (nm : List UInt8) (vp : Value) (p : List UInt8) (M : Nat) (w : World) (hM : Mine w (ownD db mb ab D es)) (hR : Rep es D.fs) (hA : ArOk D.ar) (hG : Good D.fs M) (hMM : M ≤ 140737488355328) (hs : nm.length ≤ 140737488355328) (hp : RB (off w (blksOf (ownD db mb ab D es))) vp p) (hpl : p.length ≤ 140737488355328) :
    Fun Tryz.prog 71 [.pointer (some ⟨db, 0, none⟩), .string (bs nm), vp] w fun v w' => ActPost db mb ab D es (doD D 2 nm p 0) w v w' := by
 obtain ⟨Ap, cp, rfl, hp1, hp2⟩ := hp.row.form
 refine fun_of_sw Tryz.func71 rfl 26 rfl rfl ?_
 have hH : Hp w w (off w (blksOf (ownD db mb ab D es))) (blksOf (ownD db mb ab D es)) (dskO db mb ab D es ++ []) := (Hp.start_mine hM).open_
 replace hH : Hp w w _ _ [.blk db 70 [.map (some mb), .bool D.off, arV D.ar ab], .smap mb (kvE es), filsO es, .grp (armO D.ar ab)] := hH
 refine sw_sr ?_
 refine gl_st (st_boxH (cs := [Pp db 0]) rfl rfl rfl rfl hH ?_)
 clear hH; intro b1 w2 hH
 refine gl_st (st_boxH (cs := [.string (bs nm)]) rfl rfl rfl rfl hH ?_)
 clear hH; intro b3 w4 hH
 refine gl_st (st_boxH (cs := [.slice Ap p.length cp]) rfl rfl rfl rfl hH ?_)
 clear hH; intro b5 w6 hH
 refine glo 1 [(3, Pp b1 0), (4, Pp b3 0), (5, Pp b5 0)] ?_
 refine gl_dn rfl ?_
 refine sw_seq ?_
 refine sw_sr ?_
 refine gl_q rfl rfl rfl (rd_loadK 4 (by kernel_rfl) hH rfl rfl rfl) ?_
 refine gl_q rfl rfl rfl (rd_loadK 5 (by kernel_rfl) hH rfl rfl rfl) ?_
 replace hH : Hp w w6 _ _ ([_, _] ++ [_, _, _, _, _]) := hH
 refine gl_st (st_call rfl rfl rfl (by kernel_rfl) rfl (At_ct _ _ _ _ es nm _ hs hH.mine) ?_)
 rintro _ w7 ⟨rfl, hF8⟩
 replace hH := hH.turns hF8; clear hF8
 replace hH : Hp w w7 _ _ [_, _, _, _, _, _, _] := hH
 refine glo 5 [(3, Pp b1 0), (4, Pp b3 0), (5, Pp b5 0), (8, errV (mayQ D.off es nm))] ?_
 refine gl_dn rfl ?_
 refine sw_sr ?_
 refine glo 1 [(3, Pp b1 0), (4, Pp b3 0), (5, Pp b5 0), (8, errV (mayQ D.off es nm)), (15, errV (mayQ D.off es nm))] ?_
 refine gl_q rfl rfl rfl (rd_err_ne (by kernel_rfl) rfl) ?_
 refine glo 1 [(3, Pp b1 0), (4, Pp b3 0), (5, Pp b5 0), (8, errV (mayQ D.off es nm)), (17, .bool ((mayQ D.off es nm) != 0))] ?_
 refine gl_split 17 (b := (mayQ D.off es nm) != 0) rfl (fun hg1 => ?_) (fun hg1 => ?_)
 ·
  try simp only [bne_iff_ne, ne_eq] at hg1
  refine glo 1 [(3, Pp b1 0), (4, Pp b3 0), (5, Pp b5 0), (8, errV (mayQ D.off es nm)), (17, .bool true), (18, errV (mayQ D.off es nm))] ?_
  refine gl_cv 18 (.iface 38 (Ni (mayQ D.off es nm))) (errV_if (by omega)) rfl ?_
  refine glo 1 [(3, Pp b1 0), (4, Pp b3 0), (5, Pp b5 0), (8, errV (mayQ D.off es nm)), (17, .bool true), (18, .iface 38 (Ni (mayQ D.off es nm))), (19, .iface 38 (.int .i64 81))] ?_
  refine gl_q rfl rfl rfl (rd_ifi_ne (k0 := .i64) (by kernel_rfl) (by kernel_rfl) (by kernel_rfl) rfl rfl) ?_
  refine glo 1 [(3, Pp b1 0), (4, Pp b3 0), (5, Pp b5 0), (8, errV (mayQ D.off es nm)), (21, .bool ((((mayQ D.off es nm : Nat) : Int) : Int) != 81))] ?_
  refine gl_dn rfl ?_
  refine sw_cond rfl rfl (fun hc2 => ?_) (fun hc2 => ?_)
  ·
   try simp only [bne_iff_ne, ne_eq] at hc2
   refine sw_sr ?_
   refine glo 2 [(6, errV (mayQ D.off es nm))] ?_
   refine gl_dn rfl ?_
   refine sw_ret ?_
   refine thR ?_
   refine ret1 rfl rfl  ?_
   replace hH := hH.fr2.fr2.fr7.fr7
   replace hH : Hp w w7 _ _ [_, _, _, _] := (hH.sublist (slk (slk (slk (slk sln)))))
   exact fin_err (kind := 2) (th := false) hR rfl _ (ff_err hR (by omega)) (by omega) ((hH.close (r := [])).turned)
  try simp only [bne_eq_false_iff_eq] at hc2
  have hm81 : mayQ D.off es nm = 81 := by omega
  have hm0 : mayE D nm false = 0 := ff_zero hR (.inr hm81)
  have hnot := at_81 hm81
  have hold := old_none hR hnot
  refine sw_skip ?_
  refine sw_next ?_
  refine sw_sr ?_
  refine gl_q rfl rfl rfl (rd_loadK 2 (by kernel_rfl) hH rfl rfl rfl) ?_
  obtain ⟨D2, cu, pt, hcut⟩ : ∃ D2 cu pt, cutD D = (D2, cu, pt) := ⟨_, _, _, rfl⟩
  replace hH := hH.fr7.fr5.fr5.fr6
  replace hH : Hp w w7 _ _ ([.blk b5 37 [.slice Ap p.length cp], .blk b1 25 [Pp db 0], .blk b3 9 [.string (bs nm)], .smap mb (kvE es), filsO es] ++ [.grp (armO D.ar ab), .blk db 70 [.map (some mb), .bool D.off, arV D.ar ab]]) := hH
  replace hH := hH.close
  replace hH : Hp w w7 _ _ [.grp [.blk b5 37 [.slice Ap p.length cp], .blk b1 25 [Pp db 0], .blk b3 9 [.string (bs nm)], .smap mb (kvE es), filsO es], .grp (armO D.ar ab), .blk db 70 [.map (some mb), .bool D.off, arV D.ar ab]] := hH
  refine glo 1 [(23, Pp db 0), (24, .func (.func 110) #[] #[Pp b5 0, Pp b1 0, Pp b3 0])] ?_
  replace hH : Hp w w7 _ _ ([_, _, _] ++ []) := hH.fr2.fr3
  refine gl_st (st_call rfl rfl rfl (by kernel_rfl) rfl (DAct_ct (γ := Nat × Value) _ ab _ D D2 cu pt 110 _ (.grp [.blk b5 37 [.slice Ap p.length cp], .blk b1 25 [Pp db 0], .blk b3 9 [.string (bs nm)], .smap mb (kvE es), filsO es]) (fun u => .grp [.blk b5 37 [.slice Ap p.length cp], .blk b1 25 [Pp db 0], .blk b3 9 [.string (bs nm)], .smap mb (kvE (putE es ⟨nm, u.1, u.2, p, p.length⟩)), filsO (putE es ⟨nm, u.1, u.2, p, p.length⟩)]) (off w (blksOf (ownD db mb ab D es))) _ hcut hA hH.mine hH.zoff (by kernel_rfl) (fun w1 hM1 hz1 => PutDo_ct b5 b1 b3 db mb D2.off (arV D2.ar ab) _ es nm p _ w1 hM1 hp hz1 hpl)) ?_)
  rintro _ w9 ⟨x', rfl, hF10, hor⟩
  replace hH := hH.turns hF10; clear hF10
  replace hH : Hp w w9 _ _ [_, _, _] := hH
  refine glo 1 [(6, errV (if cu = true then 80 else 0))] ?_
  refine gl_dn rfl ?_
  refine sw_ret ?_
  refine ret1 rfl rfl  ?_
  rcases hor with ⟨hrun, u, rfl⟩ | ⟨hrun, rfl⟩
  ·
   replace hH := hH.fr3
   replace hH : Hp w w9 _ _ (.grp [.blk b5 37 [.slice Ap p.length cp], .blk b1 25 [Pp db 0], .blk b3 9 [.string (bs nm)], .smap mb (kvE (putE es ⟨nm, u.1, u.2, p, p.length⟩)), filsO (putE es ⟨nm, u.1, u.2, p, p.length⟩)] :: [.blk db 70 [.map (some mb), .bool D2.off, arV D2.ar ab], .grp (armO D2.ar ab)]) := hH
   replace hH := hH.open_
   replace hH : Hp w w9 _ _ [.blk b5 37 [.slice Ap p.length cp], .blk b1 25 [Pp db 0], .blk b3 9 [.string (bs nm)], .smap mb (kvE (putE es ⟨nm, u.1, u.2, p, p.length⟩)), filsO (putE es ⟨nm, u.1, u.2, p, p.length⟩), .blk db 70 [.map (some mb), .bool D2.off, arV D2.ar ab], .grp (armO D2.ar ab)] := hH
   replace hH := hH.fr7.fr6.fr6.fr7
   replace hH : Hp w w9 _ _ [_, _, _, _] := (hH.sublist (slk (slk (slk (slk sln)))))
   exact fin_run (kind := 2) (th := false) (n := 0) rfl hm0 (fun h => absurd h.1 (by decide)) hcut (by decide) hrun (rep_put hR _) ((hH.close (r := [])).turned)
  ·
   replace hH := hH.fr3
   replace hH : Hp w w9 _ _ (.grp [.blk b5 37 [.slice Ap p.length cp], .blk b1 25 [Pp db 0], .blk b3 9 [.string (bs nm)], .smap mb (kvE es), filsO es] :: [.blk db 70 [.map (some mb), .bool D2.off, arV D2.ar ab], .grp (armO D2.ar ab)]) := hH
   replace hH := hH.open_
   replace hH : Hp w w9 _ _ [.blk b5 37 [.slice Ap p.length cp], .blk b1 25 [Pp db 0], .blk b3 9 [.string (bs nm)], .smap mb (kvE es), filsO es, .blk db 70 [.map (some mb), .bool D2.off, arV D2.ar ab], .grp (armO D2.ar ab)] := hH
   replace hH := hH.fr7.fr6.fr6.fr7
   replace hH : Hp w w9 _ _ [_, _, _, _] := (hH.sublist (slk (slk (slk (slk sln)))))
   exact fin_not (kind := 2) (th := false) (n := 0) hR rfl hm0 (fun h => absurd h.1 (by decide)) hcut (by decide) hrun ((hH.close (r := [])).turned)
  
 try simp only [bne_eq_false_iff_eq] at hg1
 have hm00 : mayQ D.off es nm = 0 := by omega
 have hm0 : mayE D nm false = 0 := ff_zero hR (.inl hm00)
 refine glo 4 [(3, Pp b1 0), (4, Pp b3 0), (5, Pp b5 0), (8, errV (mayQ D.off es nm)), (21, .bool false)] ?_
 refine gl_dn rfl ?_
 refine sw_false rfl rfl ?_
 refine sw_skip ?_
 refine sw_next ?_
 refine sw_sr ?_
 refine gl_q rfl rfl rfl (rd_loadK 2 (by kernel_rfl) hH rfl rfl rfl) ?_
 obtain ⟨D2, cu, pt, hcut⟩ : ∃ D2 cu pt, cutD D = (D2, cu, pt) := ⟨_, _, _, rfl⟩
 replace hH := hH.fr7.fr5.fr5.fr6
 replace hH : Hp w w7 _ _ ([.blk b5 37 [.slice Ap p.length cp], .blk b1 25 [Pp db 0], .blk b3 9 [.string (bs nm)], .smap mb (kvE es), filsO es] ++ [.grp (armO D.ar ab), .blk db 70 [.map (some mb), .bool D.off, arV D.ar ab]]) := hH
 replace hH := hH.close
 replace hH : Hp w w7 _ _ [.grp [.blk b5 37 [.slice Ap p.length cp], .blk b1 25 [Pp db 0], .blk b3 9 [.string (bs nm)], .smap mb (kvE es), filsO es], .grp (armO D.ar ab), .blk db 70 [.map (some mb), .bool D.off, arV D.ar ab]] := hH
 refine glo 1 [(23, Pp db 0), (24, .func (.func 110) #[] #[Pp b5 0, Pp b1 0, Pp b3 0])] ?_
 replace hH : Hp w w7 _ _ ([_, _, _] ++ []) := hH.fr2.fr3
 refine gl_st (st_call rfl rfl rfl (by kernel_rfl) rfl (DAct_ct (γ := Nat × Value) _ ab _ D D2 cu pt 110 _ (.grp [.blk b5 37 [.slice Ap p.length cp], .blk b1 25 [Pp db 0], .blk b3 9 [.string (bs nm)], .smap mb (kvE es), filsO es]) (fun u => .grp [.blk b5 37 [.slice Ap p.length cp], .blk b1 25 [Pp db 0], .blk b3 9 [.string (bs nm)], .smap mb (kvE (putE es ⟨nm, u.1, u.2, p, p.length⟩)), filsO (putE es ⟨nm, u.1, u.2, p, p.length⟩)]) (off w (blksOf (ownD db mb ab D es))) _ hcut hA hH.mine hH.zoff (by kernel_rfl) (fun w1 hM1 hz1 => PutDo_ct b5 b1 b3 db mb D2.off (arV D2.ar ab) _ es nm p _ w1 hM1 hp hz1 hpl)) ?_)
 rintro _ w11 ⟨x', rfl, hF12, hor⟩
 replace hH := hH.turns hF12; clear hF12
 replace hH : Hp w w11 _ _ [_, _, _] := hH
 refine glo 1 [(6, errV (if cu = true then 80 else 0))] ?_
 refine gl_dn rfl ?_
 refine sw_ret ?_
 refine ret1 rfl rfl  ?_
 rcases hor with ⟨hrun, u, rfl⟩ | ⟨hrun, rfl⟩
 ·
  replace hH := hH.fr3
  replace hH : Hp w w11 _ _ (.grp [.blk b5 37 [.slice Ap p.length cp], .blk b1 25 [Pp db 0], .blk b3 9 [.string (bs nm)], .smap mb (kvE (putE es ⟨nm, u.1, u.2, p, p.length⟩)), filsO (putE es ⟨nm, u.1, u.2, p, p.length⟩)] :: [.blk db 70 [.map (some mb), .bool D2.off, arV D2.ar ab], .grp (armO D2.ar ab)]) := hH
  replace hH := hH.open_
  replace hH : Hp w w11 _ _ [.blk b5 37 [.slice Ap p.length cp], .blk b1 25 [Pp db 0], .blk b3 9 [.string (bs nm)], .smap mb (kvE (putE es ⟨nm, u.1, u.2, p, p.length⟩)), filsO (putE es ⟨nm, u.1, u.2, p, p.length⟩), .blk db 70 [.map (some mb), .bool D2.off, arV D2.ar ab], .grp (armO D2.ar ab)] := hH
  replace hH := hH.fr7.fr6.fr6.fr7
  replace hH : Hp w w11 _ _ [_, _, _, _] := (hH.sublist (slk (slk (slk (slk sln)))))
  exact fin_run (kind := 2) (th := false) (n := 0) rfl hm0 (fun h => absurd h.1 (by decide)) hcut (by decide) hrun (rep_put hR _) ((hH.close (r := [])).turned)
 ·
  replace hH := hH.fr3
  replace hH : Hp w w11 _ _ (.grp [.blk b5 37 [.slice Ap p.length cp], .blk b1 25 [Pp db 0], .blk b3 9 [.string (bs nm)], .smap mb (kvE es), filsO es] :: [.blk db 70 [.map (some mb), .bool D2.off, arV D2.ar ab], .grp (armO D2.ar ab)]) := hH
  replace hH := hH.open_
  replace hH : Hp w w11 _ _ [.blk b5 37 [.slice Ap p.length cp], .blk b1 25 [Pp db 0], .blk b3 9 [.string (bs nm)], .smap mb (kvE es), filsO es, .blk db 70 [.map (some mb), .bool D2.off, arV D2.ar ab], .grp (armO D2.ar ab)] := hH
  replace hH := hH.fr7.fr6.fr6.fr7
  replace hH : Hp w w11 _ _ [_, _, _, _] := (hH.sublist (slk (slk (slk (slk sln)))))
  exact fin_not (kind := 2) (th := false) (n := 0) hR rfl hm0 (fun h => absurd h.1 (by decide)) hcut (by decide) hrun ((hH.close (r := [])).turned)
 
theorem Remove_ct (db mb ab : Nat) (D : Dsk) (es : List PE) (nm : List UInt8) (M : Nat) (w : World) (hM : Mine w (ownD db mb ab D es)) (hR : Rep es D.fs) (hA : ArOk D.ar) (hG : Good D.fs M) (hMM : M ≤ 140737488355328) (hs : nm.length ≤ 140737488355328) :
    Fun Tryz.prog 44 [.pointer (some ⟨db, 0, none⟩), .string (bs nm)] w fun v w' => ActPost db mb ab D es (doD D 4 nm [] 0) w v w' := by
 refine fun_of_sw Tryz.func44 rfl 19 rfl rfl ?_
 have hH : Hp w w (off w (blksOf (ownD db mb ab D es))) (blksOf (ownD db mb ab D es)) (dskO db mb ab D es ++ []) := (Hp.start_mine hM).open_
 replace hH : Hp w w _ _ [.blk db 70 [.map (some mb), .bool D.off, arV D.ar ab], .smap mb (kvE es), filsO es, .grp (armO D.ar ab)] := hH
 refine sw_sr ?_
 refine gl_st (st_boxH (cs := [Pp db 0]) rfl rfl rfl rfl hH ?_)
 clear hH; intro b1 w2 hH
 refine gl_st (st_boxH (cs := [.string (bs nm)]) rfl rfl rfl rfl hH ?_)
 clear hH; intro b3 w4 hH
 refine glo 1 [(2, Pp b1 0), (3, Pp b3 0)] ?_
 refine gl_dn rfl ?_
 refine sw_seq ?_
 refine sw_sr ?_
 refine gl_q rfl rfl rfl (rd_loadK 4 (by kernel_rfl) hH rfl rfl rfl) ?_
 refine gl_q rfl rfl rfl (rd_loadK 5 (by kernel_rfl) hH rfl rfl rfl) ?_
 replace hH : Hp w w4 _ _ ([_, _] ++ [_, _, _, _]) := hH
 refine gl_st (st_call rfl rfl rfl (by kernel_rfl) rfl (At_ct _ _ _ _ es nm _ hs hH.mine) ?_)
 rintro _ w5 ⟨rfl, hF6⟩
 replace hH := hH.turns hF6; clear hF6
 replace hH : Hp w w5 _ _ [_, _, _, _, _, _] := hH
 refine glo 5 [(2, Pp b1 0), (3, Pp b3 0), (6, errV (mayQ D.off es nm))] ?_
 refine gl_dn rfl ?_
 refine sw_sr ?_
 refine glo 1 [(2, Pp b1 0), (3, Pp b3 0), (6, errV (mayQ D.off es nm)), (13, errV (mayQ D.off es nm))] ?_
 refine gl_q rfl rfl rfl (rd_err_ne (by kernel_rfl) rfl) ?_
 refine gl_dn rfl ?_
 refine sw_cond rfl rfl (fun hc1 => ?_) (fun hc1 => ?_)
 ·
  try simp only [bne_iff_ne, ne_eq] at hc1
  refine sw_sr ?_
  refine glo 2 [(4, errV (mayQ D.off es nm))] ?_
  refine gl_dn rfl ?_
  refine sw_ret ?_
  refine thR ?_
  refine ret1 rfl rfl  ?_
  replace hH := hH.fr2.fr2.fr6.fr6
  replace hH : Hp w w5 _ _ [_, _, _, _] := (hH.sublist (slk (slk (slk (slk sln)))))
  exact fin_err (kind := 4) (th := true) hR rfl _ (mayP_eq hR nm) (by omega) ((hH.close (r := [])).turned)
 try simp only [bne_eq_false_iff_eq] at hc1
 have hm0 : mayE D nm true = 0 := by rw [mayP_eq hR]; omega
 obtain ⟨fb, fv, b, sr, he, hat, hlt⟩ := at_zero (show mayQ D.off es nm = 0 by omega)
 have hold := old_of hR he
 refine sw_skip ?_
 refine sw_next ?_
 refine sw_sr ?_
 refine gl_q rfl rfl rfl (rd_loadK 2 (by kernel_rfl) hH rfl rfl rfl) ?_
 obtain ⟨D2, cu, pt, hcut⟩ : ∃ D2 cu pt, cutD D = (D2, cu, pt) := ⟨_, _, _, rfl⟩
 replace hH := hH.fr6.fr5.fr5
 replace hH : Hp w w5 _ _ ([.blk b1 25 [Pp db 0], .blk b3 9 [.string (bs nm)], .smap mb (kvE es), filsO es] ++ [.grp (armO D.ar ab), .blk db 70 [.map (some mb), .bool D.off, arV D.ar ab]]) := hH
 replace hH := hH.close
 replace hH : Hp w w5 _ _ [.grp [.blk b1 25 [Pp db 0], .blk b3 9 [.string (bs nm)], .smap mb (kvE es), filsO es], .grp (armO D.ar ab), .blk db 70 [.map (some mb), .bool D.off, arV D.ar ab]] := hH
 refine glo 1 [(16, Pp db 0), (17, .func (.func 76) #[] #[Pp b1 0, Pp b3 0])] ?_
 replace hH : Hp w w5 _ _ ([_, _, _] ++ []) := hH.fr2.fr3
 refine gl_st (st_call rfl rfl rfl (by kernel_rfl) rfl (DAct_ct (γ := Unit) _ ab _ D D2 cu pt 76 _ (.grp [.blk b1 25 [Pp db 0], .blk b3 9 [.string (bs nm)], .smap mb (kvE es), filsO es]) (fun u => .grp [.blk b1 25 [Pp db 0], .blk b3 9 [.string (bs nm)], .smap mb (kvE (es.eraseIdx (ixE es nm))), filsO (es.eraseIdx (ixE es nm))]) (fun _ => none) _ hcut hA hH.mine (fun _ _ h => by cases h) (by kernel_rfl) (fun w1 hM1 _ => RemDo_ct b1 b3 db mb D2.off (arV D2.ar ab) es nm w1 hM1 hlt)) ?_)
 rintro _ w7 ⟨x', rfl, hF8, hor⟩
 replace hH := hH.turns hF8; clear hF8
 replace hH : Hp w w7 _ _ [_, _, _] := hH
 refine glo 1 [(4, errV (if cu = true then 80 else 0))] ?_
 refine gl_dn rfl ?_
 refine sw_ret ?_
 refine ret1 rfl rfl  ?_
 rcases hor with ⟨hrun, u, rfl⟩ | ⟨hrun, rfl⟩
 ·
  replace hH := hH.fr3
  replace hH : Hp w w7 _ _ (.grp [.blk b1 25 [Pp db 0], .blk b3 9 [.string (bs nm)], .smap mb (kvE (es.eraseIdx (ixE es nm))), filsO (es.eraseIdx (ixE es nm))] :: [.blk db 70 [.map (some mb), .bool D2.off, arV D2.ar ab], .grp (armO D2.ar ab)]) := hH
  replace hH := hH.open_
  replace hH : Hp w w7 _ _ [.blk b1 25 [Pp db 0], .blk b3 9 [.string (bs nm)], .smap mb (kvE (es.eraseIdx (ixE es nm))), filsO (es.eraseIdx (ixE es nm)), .blk db 70 [.map (some mb), .bool D2.off, arV D2.ar ab], .grp (armO D2.ar ab)] := hH
  replace hH := hH.fr6.fr5.fr5.fr6
  replace hH : Hp w w7 _ _ [_, _, _, _] := (hH.sublist (slk (slk (slk (slk sln)))))
  exact fin_run (kind := 4) (th := true) (n := 0) rfl hm0 (fun h => absurd h.1 (by decide)) hcut (by decide) hrun (rep_del hR nm) ((hH.close (r := [])).turned)
 ·
  replace hH := hH.fr3
  replace hH : Hp w w7 _ _ (.grp [.blk b1 25 [Pp db 0], .blk b3 9 [.string (bs nm)], .smap mb (kvE es), filsO es] :: [.blk db 70 [.map (some mb), .bool D2.off, arV D2.ar ab], .grp (armO D2.ar ab)]) := hH
  replace hH := hH.open_
  replace hH : Hp w w7 _ _ [.blk b1 25 [Pp db 0], .blk b3 9 [.string (bs nm)], .smap mb (kvE es), filsO es, .blk db 70 [.map (some mb), .bool D2.off, arV D2.ar ab], .grp (armO D2.ar ab)] := hH
  replace hH := hH.fr6.fr5.fr5.fr6
  replace hH : Hp w w7 _ _ [_, _, _, _] := (hH.sublist (slk (slk (slk (slk sln)))))
  exact fin_not (kind := 4) (th := true) (n := 0) hR rfl hm0 (fun h => absurd h.1 (by decide)) hcut (by decide) hrun ((hH.close (r := [])).turned)
 
end Go.Proofs.YtajapgjemefoiaaGreatDoor
/- Layer 18 (disk), the program's: Sync, Cut, Append: what they answer. -/
set_option maxRecDepth 100000
set_option maxHeartbeats 4000000
set_option linter.unusedVariables false
set_option linter.unusedSimpArgs false
namespace Go.Proofs.YtajapgjemefoiaaGreatDoor
open Go.RowKit Go.SW

theorem Sync_ct (db mb ab : Nat) (D : Dsk) (es : List PE) (nm : List UInt8) (M : Nat) (w : World) (hM : Mine w (ownD db mb ab D es)) (hR : Rep es D.fs) (hA : ArOk D.ar) (hG : Good D.fs M) (hMM : M ≤ 140737488355328) (hs : nm.length ≤ 140737488355328) :
    Fun Tryz.prog 47 [.pointer (some ⟨db, 0, none⟩), .string (bs nm)] w fun v w' => ActPost db mb ab D es (doD D 1 nm [] 0) w v w' := by
 refine fun_of_sw Tryz.func47 rfl 19 rfl rfl ?_
 have hH : Hp w w (off w (blksOf (ownD db mb ab D es))) (blksOf (ownD db mb ab D es)) (dskO db mb ab D es ++ []) := (Hp.start_mine hM).open_
 replace hH : Hp w w _ _ [.blk db 70 [.map (some mb), .bool D.off, arV D.ar ab], .smap mb (kvE es), filsO es, .grp (armO D.ar ab)] := hH
 refine sw_sr ?_
 refine glo 1 [(0, Pp db 0), (1, .string (bs nm))] ?_
 refine gl_dn rfl ?_
 refine sw_sr ?_
 refine glo 2 [(0, Pp db 0), (8, Pp db 0), (9, .string (bs nm))] ?_
 replace hH : Hp w w _ _ ([_, _] ++ [_, _]) := hH
 refine gl_st (st_call rfl rfl rfl (by kernel_rfl) rfl (At_ct _ _ _ _ es nm _ hs hH.mine) ?_)
 rintro _ w1 ⟨rfl, hF2⟩
 replace hH := hH.turns hF2; clear hF2
 replace hH : Hp w w1 _ _ [_, _, _, _] := hH
 refine glo 3 [(0, Pp db 0), (11, atV D.off es nm), (12, errV (mayQ D.off es nm))] ?_
 refine gl_st (st_allocH rfl rfl rfl (cs := [.pointer none]) (by kernel_rfl) hH ?_)
 clear hH; intro b3 w4 hH
 refine gl_st (st_storeK (v := atV D.off es nm) 4 rfl rfl rfl hH rfl rfl (atV_one D.off es nm) (by kernel_rfl) rfl (by simp) ?_)
 clear hH; intro w5 hH
 refine glo 1 [(0, Pp db 0), (5, Pp b3 0), (6, errV (mayQ D.off es nm))] ?_
 refine gl_dn rfl ?_
 refine sw_seq ?_
 refine sw_sr ?_
 refine glo 1 [(0, Pp db 0), (5, Pp b3 0), (6, errV (mayQ D.off es nm)), (13, errV (mayQ D.off es nm))] ?_
 refine gl_q rfl rfl rfl (rd_err_ne (by kernel_rfl) rfl) ?_
 refine gl_dn rfl ?_
 refine sw_cond rfl rfl (fun hc1 => ?_) (fun hc1 => ?_)
 ·
  try simp only [bne_iff_ne, ne_eq] at hc1
  refine sw_sr ?_
  refine glo 2 [(4, errV (mayQ D.off es nm))] ?_
  refine gl_dn rfl ?_
  refine sw_ret ?_
  refine thR ?_
  refine ret1 rfl rfl  ?_
  replace hH := hH.fr2.fr2.fr4.fr4
  replace hH : Hp w w5 _ _ [_, _, _, _] := (hH.sublist (slk (slk (slk (slk sln)))))
  exact fin_err (kind := 1) (th := true) hR rfl _ (mayP_eq hR nm) (by omega) ((hH.close (r := [])).turned)
 try simp only [bne_eq_false_iff_eq] at hc1
 have hm0 : mayE D nm true = 0 := by rw [mayP_eq hR]; omega
 obtain ⟨fb, fv, b, sr, he, hat, hlt⟩ := at_zero (show mayQ D.off es nm = 0 by omega)
 have hold := old_of hR he
 replace hH := hH.cast (os' := [filsO es, .grp (armO D.ar ab), .blk db 70 [.map (some mb), .bool D.off, arV D.ar ab], .smap mb (kvE es), .blk b3 73 [Pp fb 0]]) (by first | (rw [hat]; done) | (rw [hat]; rfl))
 refine sw_skip ?_
 refine sw_next ?_
 refine sw_sr ?_
 obtain ⟨D2, cu, pt, hcut⟩ : ∃ D2 cu pt, cutD D = (D2, cu, pt) := ⟨_, _, _, rfl⟩
 replace hH := hH.fr5
 replace hH : Hp w w5 _ _ ([.blk b3 73 [Pp fb 0], filsO es] ++ [.grp (armO D.ar ab), .blk db 70 [.map (some mb), .bool D.off, arV D.ar ab], .smap mb (kvE es)]) := hH
 replace hH := hH.close
 replace hH : Hp w w5 _ _ [.grp [.blk b3 73 [Pp fb 0], filsO es], .grp (armO D.ar ab), .blk db 70 [.map (some mb), .bool D.off, arV D.ar ab], .smap mb (kvE es)] := hH
 refine glo 2 [(16, Pp db 0), (17, .func (.func 79) #[] #[Pp b3 0])] ?_
 replace hH : Hp w w5 _ _ ([_, _, _] ++ [_]) := hH.fr2.fr3
 refine gl_st (st_call rfl rfl rfl (by kernel_rfl) rfl (DAct_ct (γ := Unit) _ ab _ D D2 cu pt 79 _ (.grp [.blk b3 73 [Pp fb 0], filsO es]) (fun u => .grp [.blk b3 73 [Pp fb 0], filsO (es.set (ixE es nm) ⟨nm, fb, fv, b, b.length⟩)]) (fun _ => none) _ hcut hA hH.mine (fun _ _ h => by cases h) (by kernel_rfl) (fun w1 hM1 _ => SyncDo_ct b3 es _ nm fb fv b sr he _ w1 hM1)) ?_)
 rintro _ w6 ⟨x', rfl, hF7, hor⟩
 replace hH := hH.turns hF7; clear hF7
 replace hH : Hp w w6 _ _ [_, _, _, _] := hH
 refine glo 1 [(4, errV (if cu = true then 80 else 0))] ?_
 refine gl_dn rfl ?_
 refine sw_ret ?_
 refine ret1 rfl rfl  ?_
 rcases hor with ⟨hrun, u, rfl⟩ | ⟨hrun, rfl⟩
 ·
  replace hH := hH.fr4
  replace hH : Hp w w6 _ _ (.grp [.blk b3 73 [Pp fb 0], filsO (es.set (ixE es nm) ⟨nm, fb, fv, b, b.length⟩)] :: [.smap mb (kvE es), .blk db 70 [.map (some mb), .bool D2.off, arV D2.ar ab], .grp (armO D2.ar ab)]) := hH
  replace hH := hH.open_
  replace hH : Hp w w6 _ _ [.blk b3 73 [Pp fb 0], filsO (es.set (ixE es nm) ⟨nm, fb, fv, b, b.length⟩), .smap mb (kvE es), .blk db 70 [.map (some mb), .bool D2.off, arV D2.ar ab], .grp (armO D2.ar ab)] := hH
  have hkv : kvE es = kvE (es.set (ixE es nm) ⟨nm, fb, fv, b, b.length⟩) := (kvE_set (e' := ⟨nm, fb, fv, b, b.length⟩) he rfl rfl).symm
  replace hH := hH.cast (os' := [.blk b3 73 [Pp fb 0], filsO (es.set (ixE es nm) ⟨nm, fb, fv, b, b.length⟩), .smap mb (kvE (es.set (ixE es nm) ⟨nm, fb, fv, b, b.length⟩)), .blk db 70 [.map (some mb), .bool D2.off, arV D2.ar ab], .grp (armO D2.ar ab)]) (by rw [← hkv])
  replace hH := hH.fr5.fr3.fr4.fr5
  replace hH : Hp w w6 _ _ [_, _, _, _] := (hH.sublist (slk (slk (slk (slk sln)))))
  exact fin_run (kind := 1) (th := true) (n := 0) rfl hm0 (fun h => absurd h.1 (by decide)) hcut (by decide) hrun (by unfold doF; rw [hold]; exact rep_set hR he _ rfl) ((hH.close (r := [])).turned)
 ·
  replace hH := hH.fr4
  replace hH : Hp w w6 _ _ (.grp [.blk b3 73 [Pp fb 0], filsO es] :: [.smap mb (kvE es), .blk db 70 [.map (some mb), .bool D2.off, arV D2.ar ab], .grp (armO D2.ar ab)]) := hH
  replace hH := hH.open_
  replace hH : Hp w w6 _ _ [.blk b3 73 [Pp fb 0], filsO es, .smap mb (kvE es), .blk db 70 [.map (some mb), .bool D2.off, arV D2.ar ab], .grp (armO D2.ar ab)] := hH
  replace hH := hH.fr5.fr3.fr4.fr5
  replace hH : Hp w w6 _ _ [_, _, _, _] := (hH.sublist (slk (slk (slk (slk sln)))))
  exact fin_not (kind := 1) (th := true) (n := 0) hR rfl hm0 (fun h => absurd h.1 (by decide)) hcut (by decide) hrun ((hH.close (r := [])).turned)
 
theorem CutAct_ct (db mb ab : Nat) (D : Dsk) (es : List PE) (nm : List UInt8) (n : Int) (M : Nat) (w : World) (hM : Mine w (ownD db mb ab D es)) (hR : Rep es D.fs) (hA : ArOk D.ar) (hG : Good D.fs M) (hMM : M ≤ 140737488355328) (hs : nm.length ≤ 140737488355328) :
    Fun Tryz.prog 46 [.pointer (some ⟨db, 0, none⟩), .string (bs nm), .int .i64 n] w fun v w' => ActPost db mb ab D es (doD D 3 nm [] n) w v w' := by
 refine fun_of_sw Tryz.func46 rfl 33 rfl rfl ?_
 have hH : Hp w w (off w (blksOf (ownD db mb ab D es))) (blksOf (ownD db mb ab D es)) (dskO db mb ab D es ++ []) := (Hp.start_mine hM).open_
 replace hH : Hp w w _ _ [.blk db 70 [.map (some mb), .bool D.off, arV D.ar ab], .smap mb (kvE es), filsO es, .grp (armO D.ar ab)] := hH
 refine sw_sr ?_
 refine gl_st (st_boxH (cs := [.int .i64 n]) rfl rfl rfl rfl hH ?_)
 clear hH; intro b1 w2 hH
 refine glo 1 [(0, Pp db 0), (1, .string (bs nm)), (5, Pp b1 0)] ?_
 refine gl_dn rfl ?_
 refine sw_sr ?_
 refine glo 2 [(0, Pp db 0), (5, Pp b1 0), (10, Pp db 0), (11, .string (bs nm))] ?_
 replace hH : Hp w w2 _ _ ([_, _] ++ [_, _, _]) := hH
 refine gl_st (st_call rfl rfl rfl (by kernel_rfl) rfl (At_ct _ _ _ _ es nm _ hs hH.mine) ?_)
 rintro _ w3 ⟨rfl, hF4⟩
 replace hH := hH.turns hF4; clear hF4
 replace hH : Hp w w3 _ _ [_, _, _, _, _] := hH
 refine glo 3 [(0, Pp db 0), (5, Pp b1 0), (13, atV D.off es nm), (14, errV (mayQ D.off es nm))] ?_
 refine gl_st (st_allocH rfl rfl rfl (cs := [.pointer none]) (by kernel_rfl) hH ?_)
 clear hH; intro b5 w6 hH
 refine gl_st (st_storeK (v := atV D.off es nm) 5 rfl rfl rfl hH rfl rfl (atV_one D.off es nm) (by kernel_rfl) rfl (by simp) ?_)
 clear hH; intro w7 hH
 refine glo 1 [(0, Pp db 0), (5, Pp b1 0), (7, Pp b5 0), (8, errV (mayQ D.off es nm))] ?_
 refine gl_dn rfl ?_
 refine sw_seq ?_
 refine sw_block ?_
 refine sw_sr ?_
 refine glo 1 [(0, Pp db 0), (5, Pp b1 0), (7, Pp b5 0), (8, errV (mayQ D.off es nm)), (16, errV (mayQ D.off es nm))] ?_
 refine gl_q rfl rfl rfl (rd_err_ne (by kernel_rfl) rfl) ?_
 refine glo 1 [(0, Pp db 0), (5, Pp b1 0), (7, Pp b5 0), (8, errV (mayQ D.off es nm)), (15, .bool ((mayQ D.off es nm) != 0))] ?_
 refine gl_dn rfl ?_
 refine sw_cond rfl rfl (fun hc1 => ?_) (fun hc1 => ?_)
 ·
  refine sw_cv 15 (.bool true) (by rw [hc1]) rfl ?_
  try simp only [bne_iff_ne, ne_eq] at hc1
  refine sw_sr ?_
  refine glo 2 [(6, errV (mayQ D.off es nm))] ?_
  refine gl_dn rfl ?_
  refine sw_ret ?_
  refine bkR ?_
  refine thR ?_
  refine ret1 rfl rfl  ?_
  replace hH := hH.fr2.fr2.fr5.fr5
  replace hH : Hp w w7 _ _ [_, _, _, _] := (hH.sublist (slk (slk (slk (slk sln)))))
  exact fin_err (kind := 3) (th := true) hR rfl _ (mayP_eq hR nm) (by omega) ((hH.close (r := [])).turned)
 refine sw_cv 15 (.bool false) (by rw [hc1]) rfl ?_
 try simp only [bne_eq_false_iff_eq] at hc1
 have hm0 : mayE D nm true = 0 := by rw [mayP_eq hR]; omega
 obtain ⟨fb, fv, b, sr, he, hat, hlt⟩ := at_zero (show mayQ D.off es nm = 0 by omega)
 have hold := old_of hR he
 replace hH := hH.cast (os' := [filsO es, .grp (armO D.ar ab), .blk b1 3 [.int .i64 n], .blk db 70 [.map (some mb), .bool D.off, arV D.ar ab], .smap mb (kvE es), .blk b5 73 [Pp fb 0]]) (by first | (rw [hat]; done) | (rw [hat]; rfl))
 refine sw_seq ?_
 refine sw_sr ?_
 refine gl_q rfl rfl rfl (rd_loadK 2 (by kernel_rfl) hH rfl rfl rfl) ?_
 refine glo 2 [(0, Pp db 0), (5, Pp b1 0), (7, Pp b5 0), (19, .bool (decide ((n : Int) < (0 : Int))))] ?_
 refine gl_dn rfl ?_
 refine sw_cond rfl rfl (fun hc2 => ?_) (fun hc2 => ?_)
 ·
  refine sw_cv 19 (.bool true) (by rw [hc2]) rfl ?_
  try simp only [decide_eq_true_eq] at hc2
  refine sw_skip ?_
  refine sw_next ?_
  refine sw_true rfl rfl ?_
  refine sw_sr ?_
  refine glo 2 [(6, .iface 38 (.int .i64 1))] ?_
  refine gl_dn rfl ?_
  refine sw_ret ?_
  refine bkR ?_
  refine thR ?_
  refine ret1 rfl rfl  ?_
  replace hH := hH.fr2.fr2.fr5.fr5
  replace hH : Hp w w7 _ _ [_, _, _, _] := (hH.sublist (slk (slk (slk (slk sln)))))
  exact fin_arg hR hm0 (.inl (by omega)) ((hH.close (r := [])).turned)
 refine sw_cv 19 (.bool false) (by rw [hc2]) rfl ?_
 try simp only [decide_eq_false_iff_not, Int.not_lt, Int.not_le] at hc2
 obtain ⟨k, rfl⟩ : ∃ k : Nat, n = k := ⟨n.toNat, by omega⟩
 obtain ⟨Af, cf, rfl, hf1, hf2⟩ := (fil_rb hH 0 rfl he).row.form
 refine sw_draw (by kernel_rfl) (fun w_ => Hp w w_ (off w (blksOf (ownD db mb ab D es))) (blksOf (ownD db mb ab D es)) [filsO es, .grp (armO D.ar ab), .blk b1 3 [Ni k], .blk db 70 [.map (some mb), .bool D.off, arV D.ar ab], .smap mb (kvE es), .blk b5 73 [Pp fb 0]]) ?_
 replace hH := hH.drew
 generalize { w7 with drawn := w7.drawn + 1 } = w8 at hH ⊢
 have hS9 := hH.sublist (slk (slk (slk (slk (slk (slk sln))))))
 refine gdq 0 rfl (fun w_ hS => (rd_loadK 2 (by kernel_rfl) hS rfl rfl rfl)) hS9 (PQ.th (PQ.bk (PQ.th PQ.body))) ?_
 refine gdq 1 rfl (fun w_ hS => (rd_loadK 5 (by kernel_rfl) hS rfl rfl rfl)) hS9 (PQ.th (PQ.bk (PQ.th PQ.body))) ?_
 refine gdo 2 [2,3] [(0, Pp db 0), (5, Pp b1 0), (7, Pp b5 0), (19, .bool false), (22, Ni k), (25, Pp fb 0)] hS9 (PQ.th (PQ.bk (PQ.th PQ.body))) ?_
 refine gdq 4 rfl (fun w_ hS => (rd_load (by kernel_rfl) rfl (fil_cell0 hS 0 rfl he))) hS9 (PQ.th (PQ.bk (PQ.th PQ.body))) ?_
 refine gdk [(0, Pp db 0), (5, Pp b1 0), (7, Pp b5 0), (19, .bool false), (22, Ni k), (26, .slice Af b.length cf)] ?_
 refine gdq 5 rfl (fun w_ hS => (rd_len (e := 5) (by kernel_rfl) rfl)) hS9 (PQ.th (PQ.bk (PQ.th PQ.body))) ?_
 refine gdo 2 [6,7] [(0, Pp db 0), (5, Pp b1 0), (7, Pp b5 0), (19, .bool (decide (((k : Nat) : Int) > ((b.length : Nat) : Int))))] hS9 (PQ.th (PQ.bk (PQ.th PQ.body))) ?_
 refine gdn [(0, Pp db 0), (5, Pp b1 0), (7, Pp b5 0), (19, .bool (decide (((k : Nat) : Int) > ((b.length : Nat) : Int))))] ?_
 refine sw_next ?_
 refine sw_cond rfl rfl (fun hc4 => ?_) (fun hc4 => ?_)
 ·
  refine sw_cv 19 (.bool true) (by rw [hc4]) rfl ?_
  try simp only [decide_eq_true_eq] at hc4
  refine sw_sr ?_
  refine glo 2 [(6, .iface 38 (.int .i64 1))] ?_
  refine gl_dn rfl ?_
  refine sw_ret ?_
  refine bkR ?_
  refine thR ?_
  refine ret1 rfl rfl  ?_
  replace hH := hH.fr2.fr2.fr5.fr5
  replace hH : Hp w w8 _ _ [_, _, _, _] := (hH.sublist (slk (slk (slk (slk sln)))))
  exact fin_arg hR hm0 (.inr (by rw [hold]; simp only; omega)) ((hH.close (r := [])).turned)
 refine sw_cv 19 (.bool false) (by rw [hc4]) rfl ?_
 try simp only [decide_eq_false_iff_not, Int.not_lt, Int.not_le] at hc4
 refine sw_skip ?_
 refine bkN ?_
 refine sw_next ?_
 refine sw_sr ?_
 obtain ⟨D2, cu, pt, hcut⟩ : ∃ D2 cu pt, cutD D = (D2, cu, pt) := ⟨_, _, _, rfl⟩
 replace hH := hH.fr3.fr6
 replace hH : Hp w w8 _ _ ([.blk b5 73 [Pp fb 0], .blk b1 3 [Ni k], filsO es] ++ [.grp (armO D.ar ab), .blk db 70 [.map (some mb), .bool D.off, arV D.ar ab], .smap mb (kvE es)]) := hH
 replace hH := hH.close
 replace hH : Hp w w8 _ _ [.grp [.blk b5 73 [Pp fb 0], .blk b1 3 [Ni k], filsO es], .grp (armO D.ar ab), .blk db 70 [.map (some mb), .bool D.off, arV D.ar ab], .smap mb (kvE es)] := hH
 refine glo 2 [(30, Pp db 0), (31, .func (.func 78) #[] #[Pp b5 0, Pp b1 0])] ?_
 replace hH : Hp w w8 _ _ ([_, _, _] ++ [_]) := hH.fr2.fr3
 refine gl_st (st_call rfl rfl rfl (by kernel_rfl) rfl (DAct_ct (γ := Unit) _ ab _ D D2 cu pt 78 _ (.grp [.blk b5 73 [Pp fb 0], .blk b1 3 [Ni k], filsO es]) (fun u => .grp [.blk b5 73 [Pp fb 0], .blk b1 3 [Ni k], filsO (es.set (ixE es nm) ⟨nm, fb, .slice (sliceA (.slice Af b.length cf)) k k, b.take k, min sr k⟩)]) (fun _ => none) _ hcut hA hH.mine (fun _ _ h => by cases h) (by kernel_rfl) (fun w1 hM1 _ => CutDo_ct b5 b1 k es _ nm fb _ b sr he _ w1 hM1 (by omega))) ?_)
 rintro _ w9 ⟨x', rfl, hF10, hor⟩
 replace hH := hH.turns hF10; clear hF10
 replace hH : Hp w w9 _ _ [_, _, _, _] := hH
 refine glo 1 [(6, errV (if cu = true then 80 else 0))] ?_
 refine gl_dn rfl ?_
 refine sw_ret ?_
 refine ret1 rfl rfl  ?_
 rcases hor with ⟨hrun, u, rfl⟩ | ⟨hrun, rfl⟩
 ·
  replace hH := hH.fr4
  replace hH : Hp w w9 _ _ (.grp [.blk b5 73 [Pp fb 0], .blk b1 3 [Ni k], filsO (es.set (ixE es nm) ⟨nm, fb, .slice (sliceA (.slice Af b.length cf)) k k, b.take k, min sr k⟩)] :: [.smap mb (kvE es), .blk db 70 [.map (some mb), .bool D2.off, arV D2.ar ab], .grp (armO D2.ar ab)]) := hH
  replace hH := hH.open_
  replace hH : Hp w w9 _ _ [.blk b5 73 [Pp fb 0], .blk b1 3 [Ni k], filsO (es.set (ixE es nm) ⟨nm, fb, .slice (sliceA (.slice Af b.length cf)) k k, b.take k, min sr k⟩), .smap mb (kvE es), .blk db 70 [.map (some mb), .bool D2.off, arV D2.ar ab], .grp (armO D2.ar ab)] := hH
  have hkv : kvE es = kvE (es.set (ixE es nm) ⟨nm, fb, .slice (sliceA (.slice Af b.length cf)) k k, b.take k, min sr k⟩) := (kvE_set (e' := ⟨nm, fb, .slice (sliceA (.slice Af b.length cf)) k k, b.take k, min sr k⟩) he rfl rfl).symm
  replace hH := hH.cast (os' := [.blk b5 73 [Pp fb 0], .blk b1 3 [Ni k], filsO (es.set (ixE es nm) ⟨nm, fb, .slice (sliceA (.slice Af b.length cf)) k k, b.take k, min sr k⟩), .smap mb (kvE (es.set (ixE es nm) ⟨nm, fb, .slice (sliceA (.slice Af b.length cf)) k k, b.take k, min sr k⟩)), .blk db 70 [.map (some mb), .bool D2.off, arV D2.ar ab], .grp (armO D2.ar ab)]) (by rw [← hkv])
  replace hH := hH.fr6.fr4.fr5.fr6
  replace hH : Hp w w9 _ _ [_, _, _, _] := (hH.sublist (slk (slk (slk (slk sln)))))
  exact fin_run (kind := 3) (th := true) (n := ((k : Nat) : Int)) rfl hm0 (fun h => by have h3 := h.2; rw [hold] at h3; simp only at h3; omega) hcut (by decide) hrun (by unfold doF; rw [hold, Int.toNat_natCast]; exact rep_set hR he _ rfl) ((hH.close (r := [])).turned)
 ·
  replace hH := hH.fr4
  replace hH : Hp w w9 _ _ (.grp [.blk b5 73 [Pp fb 0], .blk b1 3 [Ni k], filsO es] :: [.smap mb (kvE es), .blk db 70 [.map (some mb), .bool D2.off, arV D2.ar ab], .grp (armO D2.ar ab)]) := hH
  replace hH := hH.open_
  replace hH : Hp w w9 _ _ [.blk b5 73 [Pp fb 0], .blk b1 3 [Ni k], filsO es, .smap mb (kvE es), .blk db 70 [.map (some mb), .bool D2.off, arV D2.ar ab], .grp (armO D2.ar ab)] := hH
  replace hH := hH.fr6.fr4.fr5.fr6
  replace hH : Hp w w9 _ _ [_, _, _, _] := (hH.sublist (slk (slk (slk (slk sln)))))
  exact fin_not (kind := 3) (th := true) (n := ((k : Nat) : Int)) hR rfl hm0 (fun h => by have h3 := h.2; rw [hold] at h3; simp only at h3; omega) hcut (by decide) hrun ((hH.close (r := [])).turned)
 
theorem Append_ct (db mb ab : Nat) (D : Dsk) (es : List PE) (nm : List UInt8) (vp : Value) (p : List UInt8) (M : Nat) (w : World) (hM : Mine w (ownD db mb ab D es)) (hR : Rep es D.fs) (hA : ArOk D.ar) (hG : Good D.fs M) (hMM : M ≤ 140737488355328) (hs : nm.length ≤ 140737488355328) (hp : RB (off w (blksOf (ownD db mb ab D es))) vp p) (hpl : p.length ≤ 1073741824) (hMA : M ≤ 4294967296) :
    Fun Tryz.prog 10 [.pointer (some ⟨db, 0, none⟩), .string (bs nm), vp] w fun v w' => ActPost db mb ab D es (doD D 0 nm p 0) w v w' := by
 obtain ⟨Ap, cp, rfl, hp1, hp2⟩ := hp.row.form
 refine fun_of_sw Tryz.func10 rfl 59 rfl rfl ?_
 have hH : Hp w w (off w (blksOf (ownD db mb ab D es))) (blksOf (ownD db mb ab D es)) (dskO db mb ab D es ++ []) := (Hp.start_mine hM).open_
 replace hH : Hp w w _ _ [.blk db 70 [.map (some mb), .bool D.off, arV D.ar ab], .smap mb (kvE es), filsO es, .grp (armO D.ar ab)] := hH
 refine sw_sr ?_
 refine glo 1 [(0, Pp db 0), (1, .string (bs nm)), (2, .slice Ap p.length cp)] ?_
 refine gl_dn rfl ?_
 refine sw_sr ?_
 refine glo 2 [(0, Pp db 0), (1, .string (bs nm)), (2, .slice Ap p.length cp), (12, Pp db 0), (13, .string (bs nm))] ?_
 replace hH : Hp w w _ _ ([_, _] ++ [_, _]) := hH
 refine gl_st (st_call rfl rfl rfl (by kernel_rfl) rfl (At_ct _ _ _ _ es nm _ hs hH.mine) ?_)
 rintro _ w1 ⟨rfl, hF2⟩
 replace hH := hH.turns hF2; clear hF2
 replace hH : Hp w w1 _ _ [_, _, _, _] := hH
 refine glo 5 [(0, Pp db 0), (1, .string (bs nm)), (2, .slice Ap p.length cp), (7, atV D.off es nm), (8, errV (mayQ D.off es nm))] ?_
 refine gl_dn rfl ?_
 refine sw_seq ?_
 refine sw_sr ?_
 refine glo 1 [(0, Pp db 0), (1, .string (bs nm)), (2, .slice Ap p.length cp), (7, atV D.off es nm), (8, errV (mayQ D.off es nm)), (17, errV (mayQ D.off es nm))] ?_
 refine gl_q rfl rfl rfl (rd_err_ne (by kernel_rfl) rfl) ?_
 refine glo 1 [(0, Pp db 0), (1, .string (bs nm)), (2, .slice Ap p.length cp), (7, atV D.off es nm), (8, errV (mayQ D.off es nm)), (19, .bool ((mayQ D.off es nm) != 0))] ?_
 refine gl_split 19 (b := (mayQ D.off es nm) != 0) rfl (fun hg1 => ?_) (fun hg1 => ?_)
 ·
  try simp only [bne_iff_ne, ne_eq] at hg1
  refine glo 1 [(0, Pp db 0), (1, .string (bs nm)), (2, .slice Ap p.length cp), (7, atV D.off es nm), (8, errV (mayQ D.off es nm)), (19, .bool true), (20, errV (mayQ D.off es nm))] ?_
  refine gl_cv 20 (.iface 38 (Ni (mayQ D.off es nm))) (errV_if (by omega)) rfl ?_
  refine glo 1 [(0, Pp db 0), (1, .string (bs nm)), (2, .slice Ap p.length cp), (7, atV D.off es nm), (8, errV (mayQ D.off es nm)), (19, .bool true), (20, .iface 38 (Ni (mayQ D.off es nm))), (21, .iface 38 (.int .i64 81))] ?_
  refine gl_q rfl rfl rfl (rd_ifi_ne (k0 := .i64) (by kernel_rfl) (by kernel_rfl) (by kernel_rfl) rfl rfl) ?_
  refine glo 1 [(0, Pp db 0), (1, .string (bs nm)), (2, .slice Ap p.length cp), (7, atV D.off es nm), (8, errV (mayQ D.off es nm)), (23, .bool ((((mayQ D.off es nm : Nat) : Int) : Int) != 81))] ?_
  refine gl_dn rfl ?_
  refine sw_cond rfl rfl (fun hc2 => ?_) (fun hc2 => ?_)
  ·
   refine sw_cv 23 (.bool true) (by rw [hc2]) rfl ?_
   try simp only [bne_iff_ne, ne_eq] at hc2
   refine sw_sr ?_
   refine glo 2 [(6, errV (mayQ D.off es nm))] ?_
   refine gl_dn rfl ?_
   refine sw_ret ?_
   refine thR ?_
   refine ret1 rfl rfl  ?_
   replace hH := hH.fr2.fr2.fr4.fr4
   replace hH : Hp w w1 _ _ [_, _, _, _] := (hH.sublist (slk (slk (slk (slk sln)))))
   exact fin_err (kind := 0) (th := false) hR rfl _ (ff_err hR (by omega)) (by omega) ((hH.close (r := [])).turned)
  refine sw_cv 23 (.bool false) (by rw [hc2]) rfl ?_
  try simp only [bne_eq_false_iff_eq] at hc2
  have hm81 : mayQ D.off es nm = 81 := by omega
  have hm0 : mayE D nm false = 0 := ff_zero hR (.inr hm81)
  have hnot := at_81 hm81
  have hold := old_none hR hnot
  refine sw_cv 7 (.pointer none) (at_n0 (by omega)) rfl ?_
  refine sw_skip ?_
  refine sw_next ?_
  refine sw_sr ?_
  obtain ⟨D2, cu, pt, hcut⟩ : ∃ D2 cu pt, cutD D = (D2, cu, pt) := ⟨_, _, _, rfl⟩
  refine glo 1 [(0, Pp db 0), (1, .string (bs nm)), (2, .slice Ap p.length cp), (7, .pointer none), (26, Pp db 0)] ?_
  replace hH : Hp w w1 _ _ ([_, _] ++ [_, _]) := hH.fr2.fr3
  refine gl_st (st_call rfl rfl rfl (by kernel_rfl) rfl (Cut_ct _ ab _ D D2 cu pt _ hcut hA hH.mine) ?_)
  rintro _ w3 ⟨rfl, hF4⟩
  replace hH := hH.turns hF4; clear hF4
  replace hH : Hp w w3 _ _ [_, _, _, _] := hH
  refine glo 5 [(0, Pp db 0), (1, .string (bs nm)), (2, .slice Ap p.length cp), (7, .pointer none), (9, .int .i64 pt), (10, .bool cu)] ?_
  refine gl_dn rfl ?_
  refine sw_seq ?_
  refine sw_sr ?_
  refine glo 1 [(0, Pp db 0), (1, .string (bs nm)), (2, .slice Ap p.length cp), (7, .pointer none), (9, .int .i64 pt), (10, .bool cu), (30, .bool cu)] ?_
  refine gl_dn rfl ?_
  refine sw_cond rfl rfl (fun hc3 => ?_) (fun hc3 => ?_)
  ·
   refine sw_cv 10 (.bool true) (by rw [hc3]) rfl ?_
   refine sw_cv 30 (.bool true) (by rw [hc3]) rfl ?_
   subst hc3
   refine sw_region ?_
   refine glo 3 [(0, Pp db 0), (1, .string (bs nm)), (7, .pointer none), (10, .bool true), (31, .slice Ap p.length cp), (32, .int .i64 pt), (33, .slice Ap p.length cp)] ?_
   refine gl_q rfl rfl rfl (rd_len (e := 5) (by kernel_rfl) rfl) ?_
   refine glo 1 [(0, Pp db 0), (1, .string (bs nm)), (7, .pointer none), (10, .bool true), (31, .slice Ap p.length cp), (32, .int .i64 pt), (35, .int .i64 (IntKind.i64.wrap (((p.length : Nat) : Int) + 1)))] ?_
   refine gl_cv 35 (Ni (p.length + 1)) (cv_i64 (by omega)) rfl ?_
   refine gl_st (st_call rfl rfl rfl (by kernel_rfl) rfl (Modulo_ct pt (p.length + 1) _ (by omega) (by omega)) ?_)
   rintro _ w5 ⟨rfl, hF6⟩
   replace hH := hH.call hF6; clear hF6
   have hmod := modI_lt pt (show 0 < p.length + 1 by omega)
   obtain ⟨A7, hk8, hv9⟩ := hp.row.cut (by decide) 0 (modI pt (p.length + 1)) (by omega) (by omega)
   refine gl_q rfl rfl rfl (rd_cut (e := 5) (m := 1) (by kernel_rfl) (by kernel_rfl) rfl (.inl ⟨rfl, rfl⟩) (.inr ⟨_, _, rfl, rfl⟩) hk8) ?_
   have hr10 := RB.head hv9 (by omega)
   refine glo 1 [(0, Pp db 0), (1, .string (bs nm)), (2, .slice A7 ((modI pt (p.length + 1)) - 0) (cp - 0)), (7, .pointer none), (10, .bool true)] ?_
   refine gl_done rfl ?_
   refine sw_next ?_
   refine sw_seq ?_
   refine sw_sr ?_
   refine glo 2 [(0, Pp db 0), (1, .string (bs nm)), (2, .slice A7 ((modI pt (p.length + 1)) - 0) (cp - 0)), (7, .pointer none), (10, .bool true), (39, .bool true)] ?_
   refine gl_dn rfl ?_
   refine sw_true rfl rfl ?_
   refine sw_sr ?_
   refine glo 1 [(0, Pp db 0), (1, .string (bs nm)), (2, .slice A7 ((modI pt (p.length + 1)) - 0) (cp - 0)), (10, .bool true), (40, .agg #[.slice none 0 0, .int .i64 0])] ?_
   refine gl_st (st_boxH (cs := [.slice none 0 0, .int .i64 0]) rfl rfl rfl rfl hH ?_)
   clear hH; intro b11 w12 hH
   refine glo 1 [(0, Pp db 0), (1, .string (bs nm)), (2, .slice A7 ((modI pt (p.length + 1)) - 0) (cp - 0)), (7, Pp b11 0), (10, .bool true)] ?_
   refine gl_dn rfl ?_
   refine sw_region ?_
   refine glo 3 [(1, .string (bs nm)), (2, .slice A7 ((modI pt (p.length + 1)) - 0) (cp - 0)), (7, Pp b11 0), (10, .bool true), (44, Pp db 0)] ?_
   refine gl_q rfl rfl rfl (rd_loadK 2 (by kernel_rfl) hH rfl rfl rfl) ?_
   refine glo 2 [(2, .slice A7 ((modI pt (p.length + 1)) - 0) (cp - 0)), (7, Pp b11 0), (10, .bool true), (45, .map (some mb)), (46, .string (bs nm)), (47, Pp b11 0)] ?_
   refine gl_st (st_smput (kt := 9) (e := 73) (v := Pp b11 0) 1 rfl rfl rfl (by kernel_rfl) (by kernel_rfl) hH rfl rfl nm rfl rfl ?_)
   clear hH; intro w13 hH
   refine gl_done rfl ?_
   refine sw_next ?_
   have hq9 : (p.take (modI pt (p.length + 1))).length ≤ 1073741824 := by rw [List.length_take]; omega
   refine sw_sr ?_
   refine glo 4 [(2, .slice A7 ((modI pt (p.length + 1)) - 0) (cp - 0)), (10, .bool true), (48, Pp b11 0), (51, Pp b11 0)] ?_
   refine gl_q rfl rfl rfl (rd_loadK 4 (by kernel_rfl) hH rfl rfl rfl) ?_
   refine glo 1 [(10, .bool true), (48, Pp b11 0), (52, .slice none 0 0), (53, .slice A7 ((modI pt (p.length + 1)) - 0) (cp - 0))] ?_
   replace hH := hH.nilRow 5 1
   refine gl_st (st_appH (e := 5) (zv := .int .u8 0) (m := 1) (bytes := 1) 5 rfl rfl rfl (by kernel_rfl) (by kernel_rfl) rfl (by decide) hH rfl rfl rfl (hr10.row.mono hH.zin) (bv_one _) (by unfold maxLen; omega) (by omega) ?_)
   clear hH; intro v14 w15 hH
   replace hH := hH.row_eq 5 (l' := (p.take (modI pt (p.length + 1))).length) (xs' := bv (p.take (modI pt (p.length + 1)))) rfl (Nat.zero_add _) (List.nil_append _)
   obtain ⟨A16, c17, rfl, hl18, hm19⟩ := hH.row_form 5 rfl
   refine glo 2 [(10, .bool true), (54, .slice A16 ((p.take (modI pt (p.length + 1))).length) c17), (56, Pp b11 0)] ?_
   refine gl_st (st_storeK (v := .slice A16 ((p.take (modI pt (p.length + 1))).length) c17) 4 rfl rfl rfl hH rfl rfl rfl (by kernel_rfl) rfl (by simp) ?_)
   clear hH; intro w20 hH
   refine gl_dn rfl ?_
   refine sw_seq ?_
   refine sw_sr ?_
   refine glo 1 [(57, .bool true)] ?_
   refine gl_dn rfl ?_
   refine sw_true rfl rfl ?_
   refine sw_sr ?_
   refine glo 2 [(6, .iface 38 (.int .i64 80))] ?_
   refine gl_dn rfl ?_
   refine sw_ret ?_
   refine thR ?_
   refine ret1 rfl rfl  ?_
   replace hH := hH.fr6
   replace hH : Hp w w20 _ _ (.row (.slice A16 ((p.take (modI pt (p.length + 1))).length) c17) 5 1 (p.take (modI pt (p.length + 1))).length (bv (p.take (modI pt (p.length + 1)))) :: [filsO es, .smap mb (kput (kvE es) nm (Pp b11 0)), .blk db 70 [.map (some mb), .bool D2.off, arV D2.ar ab], .grp (armO D2.ar ab), .blk b11 80 [.slice A16 ((p.take (modI pt (p.length + 1))).length) c17, .int .i64 0]]) := hH
   replace hH := hH.to_vw
   replace hH := hH.fr2.fr2.fr6
   replace hH : Hp w w20 _ _ (f1O ⟨nm, b11, .slice A16 ((p.take (modI pt (p.length + 1))).length) c17, (p.take (modI pt (p.length + 1))), 0⟩ :: f2O ⟨nm, b11, .slice A16 ((p.take (modI pt (p.length + 1))).length) c17, (p.take (modI pt (p.length + 1))), 0⟩ :: filsO es :: [.smap mb (kput (kvE es) nm (Pp b11 0)), .blk db 70 [.map (some mb), .bool D2.off, arV D2.ar ab], .grp (armO D2.ar ab)]) := hH
   replace hH := fil_put hH
   have hk : kput (kvE es) nm (.pointer (some ⟨b11, 0, none⟩)) = kvE (putE es ⟨nm, b11, .slice A16 ((p.take (modI pt (p.length + 1))).length) c17, (p.take (modI pt (p.length + 1))), 0⟩) := kput_kvE es ⟨nm, b11, .slice A16 ((p.take (modI pt (p.length + 1))).length) c17, (p.take (modI pt (p.length + 1))), 0⟩
   replace hH := hH.cast (os' := [filsO (putE es ⟨nm, b11, .slice A16 ((p.take (modI pt (p.length + 1))).length) c17, (p.take (modI pt (p.length + 1))), 0⟩), .smap mb (kvE (putE es ⟨nm, b11, .slice A16 ((p.take (modI pt (p.length + 1))).length) c17, (p.take (modI pt (p.length + 1))), 0⟩)), .blk db 70 [.map (some mb), .bool D2.off, arV D2.ar ab], .grp (armO D2.ar ab)]) (by rw [hk])
   replace hH := hH.fr4.fr2.fr3.fr4
   replace hH : Hp w w20 _ _ [_, _, _, _] := (hH.sublist (slk (slk (slk (slk sln)))))
   exact fin_app (cu := true) (pt := pt) (D2 := D2) (p.take (modI pt (p.length + 1))) hm0 hcut (by simp) (by unfold doF; rw [hold]; exact rep_put hR ⟨nm, b11, .slice A16 ((p.take (modI pt (p.length + 1))).length) c17, (p.take (modI pt (p.length + 1))), 0⟩) ((hH.close (r := [])).turned)
  refine sw_cv 10 (.bool false) (by rw [hc3]) rfl ?_
  refine sw_cv 30 (.bool false) (by rw [hc3]) rfl ?_
  subst hc3
  refine sw_skip ?_
  refine sw_next ?_
  refine sw_seq ?_
  refine sw_sr ?_
  refine glo 2 [(0, Pp db 0), (1, .string (bs nm)), (2, .slice Ap p.length cp), (7, .pointer none), (10, .bool false), (39, .bool true)] ?_
  refine gl_dn rfl ?_
  refine sw_true rfl rfl ?_
  refine sw_sr ?_
  refine glo 1 [(0, Pp db 0), (1, .string (bs nm)), (2, .slice Ap p.length cp), (10, .bool false), (40, .agg #[.slice none 0 0, .int .i64 0])] ?_
  refine gl_st (st_boxH (cs := [.slice none 0 0, .int .i64 0]) rfl rfl rfl rfl hH ?_)
  clear hH; intro b21 w22 hH
  refine glo 1 [(0, Pp db 0), (1, .string (bs nm)), (2, .slice Ap p.length cp), (7, Pp b21 0), (10, .bool false)] ?_
  refine gl_dn rfl ?_
  refine sw_region ?_
  refine glo 3 [(1, .string (bs nm)), (2, .slice Ap p.length cp), (7, Pp b21 0), (10, .bool false), (44, Pp db 0)] ?_
  refine gl_q rfl rfl rfl (rd_loadK 2 (by kernel_rfl) hH rfl rfl rfl) ?_
  refine glo 2 [(2, .slice Ap p.length cp), (7, Pp b21 0), (10, .bool false), (45, .map (some mb)), (46, .string (bs nm)), (47, Pp b21 0)] ?_
  refine gl_st (st_smput (kt := 9) (e := 73) (v := Pp b21 0) 1 rfl rfl rfl (by kernel_rfl) (by kernel_rfl) hH rfl rfl nm rfl rfl ?_)
  clear hH; intro w23 hH
  refine gl_done rfl ?_
  refine sw_next ?_
  have hq9 : p.length ≤ 1073741824 := by omega
  refine sw_sr ?_
  refine glo 4 [(2, .slice Ap p.length cp), (10, .bool false), (48, Pp b21 0), (51, Pp b21 0)] ?_
  refine gl_q rfl rfl rfl (rd_loadK 4 (by kernel_rfl) hH rfl rfl rfl) ?_
  refine glo 1 [(10, .bool false), (48, Pp b21 0), (52, .slice none 0 0), (53, .slice Ap p.length cp)] ?_
  replace hH := hH.nilRow 5 1
  refine gl_st (st_appH (e := 5) (zv := .int .u8 0) (m := 1) (bytes := 1) 5 rfl rfl rfl (by kernel_rfl) (by kernel_rfl) rfl (by decide) hH rfl rfl rfl (hp.row.mono hH.zin) (bv_one _) (by unfold maxLen; omega) (by omega) ?_)
  clear hH; intro v24 w25 hH
  replace hH := hH.row_eq 5 (l' := p.length) (xs' := bv p) rfl (Nat.zero_add _) (List.nil_append _)
  obtain ⟨A26, c27, rfl, hl28, hm29⟩ := hH.row_form 5 rfl
  refine glo 2 [(10, .bool false), (54, .slice A26 p.length c27), (56, Pp b21 0)] ?_
  refine gl_st (st_storeK (v := .slice A26 p.length c27) 4 rfl rfl rfl hH rfl rfl rfl (by kernel_rfl) rfl (by simp) ?_)
  clear hH; intro w30 hH
  refine gl_dn rfl ?_
  refine sw_seq ?_
  refine sw_sr ?_
  refine glo 1 [(57, .bool false)] ?_
  refine gl_dn rfl ?_
  refine sw_false rfl rfl ?_
  refine sw_skip ?_
  refine sw_next ?_
  refine sw_sr ?_
  refine glo 1 [(6, .nilIface)] ?_
  refine gl_dn rfl ?_
  refine sw_ret ?_
  refine ret1 rfl rfl  ?_
  replace hH := hH.fr6
  replace hH : Hp w w30 _ _ (.row (.slice A26 p.length c27) 5 1 p.length (bv p) :: [filsO es, .smap mb (kput (kvE es) nm (Pp b21 0)), .blk db 70 [.map (some mb), .bool D2.off, arV D2.ar ab], .grp (armO D2.ar ab), .blk b21 80 [.slice A26 p.length c27, .int .i64 0]]) := hH
  replace hH := hH.to_vw
  replace hH := hH.fr2.fr2.fr6
  replace hH : Hp w w30 _ _ (f1O ⟨nm, b21, .slice A26 p.length c27, p, 0⟩ :: f2O ⟨nm, b21, .slice A26 p.length c27, p, 0⟩ :: filsO es :: [.smap mb (kput (kvE es) nm (Pp b21 0)), .blk db 70 [.map (some mb), .bool D2.off, arV D2.ar ab], .grp (armO D2.ar ab)]) := hH
  replace hH := fil_put hH
  have hk : kput (kvE es) nm (.pointer (some ⟨b21, 0, none⟩)) = kvE (putE es ⟨nm, b21, .slice A26 p.length c27, p, 0⟩) := kput_kvE es ⟨nm, b21, .slice A26 p.length c27, p, 0⟩
  replace hH := hH.cast (os' := [filsO (putE es ⟨nm, b21, .slice A26 p.length c27, p, 0⟩), .smap mb (kvE (putE es ⟨nm, b21, .slice A26 p.length c27, p, 0⟩)), .blk db 70 [.map (some mb), .bool D2.off, arV D2.ar ab], .grp (armO D2.ar ab)]) (by rw [hk])
  replace hH := hH.fr4.fr2.fr3.fr4
  replace hH : Hp w w30 _ _ [_, _, _, _] := (hH.sublist (slk (slk (slk (slk sln)))))
  exact fin_app (cu := false) (pt := pt) (D2 := D2) p hm0 hcut (by simp) (by unfold doF; rw [hold]; exact rep_put hR ⟨nm, b21, .slice A26 p.length c27, p, 0⟩) ((hH.close (r := [])).turned)
 try simp only [bne_eq_false_iff_eq] at hg1
 have hm00 : mayQ D.off es nm = 0 := by omega
 have hm0 : mayE D nm false = 0 := ff_zero hR (.inl hm00)
 obtain ⟨fb, fv, b, sr, he, hat, hlt⟩ := at_zero hm00
 have hold := old_of hR he
 obtain ⟨hbM, hsr, hnm⟩ := good_at hG hR he
 refine gl_cv 7 (.pointer (some ⟨fb, 0, none⟩)) (hat) rfl ?_
 refine glo 4 [(0, Pp db 0), (1, .string (bs nm)), (2, .slice Ap p.length cp), (7, Pp fb 0), (8, errV (mayQ D.off es nm)), (23, .bool false)] ?_
 refine gl_dn rfl ?_
 refine sw_false rfl rfl ?_
 refine sw_skip ?_
 refine sw_next ?_
 refine sw_sr ?_
 obtain ⟨D2, cu, pt, hcut⟩ : ∃ D2 cu pt, cutD D = (D2, cu, pt) := ⟨_, _, _, rfl⟩
 refine glo 1 [(0, Pp db 0), (1, .string (bs nm)), (2, .slice Ap p.length cp), (7, Pp fb 0), (26, Pp db 0)] ?_
 replace hH : Hp w w1 _ _ ([_, _] ++ [_, _]) := hH.fr2.fr3
 refine gl_st (st_call rfl rfl rfl (by kernel_rfl) rfl (Cut_ct _ ab _ D D2 cu pt _ hcut hA hH.mine) ?_)
 rintro _ w31 ⟨rfl, hF32⟩
 replace hH := hH.turns hF32; clear hF32
 replace hH : Hp w w31 _ _ [_, _, _, _] := hH
 refine glo 5 [(0, Pp db 0), (1, .string (bs nm)), (2, .slice Ap p.length cp), (7, Pp fb 0), (9, .int .i64 pt), (10, .bool cu)] ?_
 refine gl_dn rfl ?_
 refine sw_seq ?_
 refine sw_sr ?_
 refine glo 1 [(0, Pp db 0), (1, .string (bs nm)), (2, .slice Ap p.length cp), (7, Pp fb 0), (9, .int .i64 pt), (10, .bool cu), (30, .bool cu)] ?_
 refine gl_dn rfl ?_
 refine sw_cond rfl rfl (fun hc9 => ?_) (fun hc9 => ?_)
 ·
  refine sw_cv 10 (.bool true) (by rw [hc9]) rfl ?_
  refine sw_cv 30 (.bool true) (by rw [hc9]) rfl ?_
  subst hc9
  refine sw_region ?_
  refine glo 3 [(0, Pp db 0), (1, .string (bs nm)), (7, Pp fb 0), (10, .bool true), (31, .slice Ap p.length cp), (32, .int .i64 pt), (33, .slice Ap p.length cp)] ?_
  refine gl_q rfl rfl rfl (rd_len (e := 5) (by kernel_rfl) rfl) ?_
  refine glo 1 [(0, Pp db 0), (1, .string (bs nm)), (7, Pp fb 0), (10, .bool true), (31, .slice Ap p.length cp), (32, .int .i64 pt), (35, .int .i64 (IntKind.i64.wrap (((p.length : Nat) : Int) + 1)))] ?_
  refine gl_cv 35 (Ni (p.length + 1)) (cv_i64 (by omega)) rfl ?_
  refine gl_st (st_call rfl rfl rfl (by kernel_rfl) rfl (Modulo_ct pt (p.length + 1) _ (by omega) (by omega)) ?_)
  rintro _ w33 ⟨rfl, hF34⟩
  replace hH := hH.call hF34; clear hF34
  have hmod := modI_lt pt (show 0 < p.length + 1 by omega)
  obtain ⟨A35, hk36, hv37⟩ := hp.row.cut (by decide) 0 (modI pt (p.length + 1)) (by omega) (by omega)
  refine gl_q rfl rfl rfl (rd_cut (e := 5) (m := 1) (by kernel_rfl) (by kernel_rfl) rfl (.inl ⟨rfl, rfl⟩) (.inr ⟨_, _, rfl, rfl⟩) hk36) ?_
  have hr38 := RB.head hv37 (by omega)
  refine glo 1 [(0, Pp db 0), (1, .string (bs nm)), (2, .slice A35 ((modI pt (p.length + 1)) - 0) (cp - 0)), (7, Pp fb 0), (10, .bool true)] ?_
  refine gl_done rfl ?_
  refine sw_next ?_
  refine sw_seq ?_
  refine sw_sr ?_
  refine glo 2 [(0, Pp db 0), (1, .string (bs nm)), (2, .slice A35 ((modI pt (p.length + 1)) - 0) (cp - 0)), (7, Pp fb 0), (10, .bool true), (39, .bool false)] ?_
  refine gl_dn rfl ?_
  refine sw_false rfl rfl ?_
  refine sw_skip ?_
  refine sw_next ?_
  have hq9 : (p.take (modI pt (p.length + 1))).length ≤ 1073741824 := by rw [List.length_take]; omega
  replace hH := fil_out he hH
  replace hH : Hp w w33 _ _ [.blk fb 80 [fv, Ni sr], .vw fv 5 b, restO es (ixE es nm), .smap mb (kvE es), .blk db 70 [.map (some mb), .bool D2.off, arV D2.ar ab], .grp (armO D2.ar ab)] := hH
  obtain ⟨Af, cf, hv, hv1, hv2⟩ := hH.vw_form 1 rfl
  subst hv
  refine sw_sr ?_
  refine glo 4 [(2, .slice A35 ((modI pt (p.length + 1)) - 0) (cp - 0)), (10, .bool true), (48, Pp fb 0), (51, Pp fb 0)] ?_
  refine gl_q rfl rfl rfl (rd_loadK 0 (by kernel_rfl) hH rfl rfl rfl) ?_
  refine glo 1 [(10, .bool true), (48, Pp fb 0), (52, .slice Af b.length cf), (53, .slice A35 ((modI pt (p.length + 1)) - 0) (cp - 0))] ?_
  refine gl_st (st_appV (e := 5) (zv := .int .u8 0) (bytes := 1) 1 rfl rfl rfl (by kernel_rfl) (by kernel_rfl) rfl hH rfl rfl rfl (hr38.mono hH.zin) (by have := hq9; unfold maxLen; omega) (by have := hq9; omega) ?_)
  clear hH; intro v43 w44 hH
  obtain ⟨A39, c40, rfl, hl41, hm42⟩ := hH.vw_form 1 rfl
  refine glo 2 [(10, .bool true), (54, .slice A39 ((b ++ (p.take (modI pt (p.length + 1)))).length) c40), (56, Pp fb 0)] ?_
  refine gl_st (st_storeK (v := .slice A39 ((b ++ (p.take (modI pt (p.length + 1)))).length) c40) 0 rfl rfl rfl hH rfl rfl rfl (by kernel_rfl) rfl (by simp) ?_)
  clear hH; intro w45 hH
  refine gl_dn rfl ?_
  refine sw_seq ?_
  refine sw_sr ?_
  refine glo 1 [(57, .bool true)] ?_
  refine gl_dn rfl ?_
  refine sw_true rfl rfl ?_
  refine sw_sr ?_
  refine glo 2 [(6, .iface 38 (.int .i64 80))] ?_
  refine gl_dn rfl ?_
  refine sw_ret ?_
  refine thR ?_
  refine ret1 rfl rfl  ?_
  replace hH : Hp w w45 _ _ (f1O ⟨nm, fb, (.slice A39 (b ++ (p.take (modI pt (p.length + 1)))).length c40), b ++ (p.take (modI pt (p.length + 1))), sr⟩ :: f2O ⟨nm, fb, (.slice A39 (b ++ (p.take (modI pt (p.length + 1)))).length c40), b ++ (p.take (modI pt (p.length + 1))), sr⟩ :: restO es (ixE es nm) :: [.smap mb (kvE es), .blk db 70 [.map (some mb), .bool D2.off, arV D2.ar ab], .grp (armO D2.ar ab)]) := hH
  replace hH := fil_in (List.getElem?_eq_some_iff.1 he).1 hH
  have hkv : kvE es = kvE (es.set (ixE es nm) ⟨nm, fb, (.slice A39 (b ++ (p.take (modI pt (p.length + 1)))).length c40), b ++ (p.take (modI pt (p.length + 1))), sr⟩) := (kvE_set (e' := ⟨nm, fb, (.slice A39 (b ++ (p.take (modI pt (p.length + 1)))).length c40), b ++ (p.take (modI pt (p.length + 1))), sr⟩) he rfl rfl).symm
  replace hH := hH.cast (os' := [filsO (es.set (ixE es nm) ⟨nm, fb, (.slice A39 (b ++ (p.take (modI pt (p.length + 1)))).length c40), b ++ (p.take (modI pt (p.length + 1))), sr⟩), .smap mb (kvE (es.set (ixE es nm) ⟨nm, fb, (.slice A39 (b ++ (p.take (modI pt (p.length + 1)))).length c40), b ++ (p.take (modI pt (p.length + 1))), sr⟩)), .blk db 70 [.map (some mb), .bool D2.off, arV D2.ar ab], .grp (armO D2.ar ab)]) (by rw [← hkv])
  replace hH := hH.fr4.fr2.fr3.fr4
  replace hH : Hp w w45 _ _ [_, _, _, _] := (hH.sublist (slk (slk (slk (slk sln)))))
  exact fin_app (cu := true) (pt := pt) (D2 := D2) (p.take (modI pt (p.length + 1))) hm0 hcut (by simp) (by unfold doF; rw [hold]; exact rep_set hR he _ rfl) ((hH.close (r := [])).turned)
 refine sw_cv 10 (.bool false) (by rw [hc9]) rfl ?_
 refine sw_cv 30 (.bool false) (by rw [hc9]) rfl ?_
 subst hc9
 refine sw_skip ?_
 refine sw_next ?_
 refine sw_seq ?_
 refine sw_sr ?_
 refine glo 2 [(0, Pp db 0), (1, .string (bs nm)), (2, .slice Ap p.length cp), (7, Pp fb 0), (10, .bool false), (39, .bool false)] ?_
 refine gl_dn rfl ?_
 refine sw_false rfl rfl ?_
 refine sw_skip ?_
 refine sw_next ?_
 have hq9 : p.length ≤ 1073741824 := by omega
 replace hH := fil_out he hH
 replace hH : Hp w w31 _ _ [.blk fb 80 [fv, Ni sr], .vw fv 5 b, restO es (ixE es nm), .smap mb (kvE es), .blk db 70 [.map (some mb), .bool D2.off, arV D2.ar ab], .grp (armO D2.ar ab)] := hH
 obtain ⟨Af, cf, hv, hv1, hv2⟩ := hH.vw_form 1 rfl
 subst hv
 refine sw_sr ?_
 refine glo 4 [(2, .slice Ap p.length cp), (10, .bool false), (48, Pp fb 0), (51, Pp fb 0)] ?_
 refine gl_q rfl rfl rfl (rd_loadK 0 (by kernel_rfl) hH rfl rfl rfl) ?_
 refine glo 1 [(10, .bool false), (48, Pp fb 0), (52, .slice Af b.length cf), (53, .slice Ap p.length cp)] ?_
 refine gl_st (st_appV (e := 5) (zv := .int .u8 0) (bytes := 1) 1 rfl rfl rfl (by kernel_rfl) (by kernel_rfl) rfl hH rfl rfl rfl (hp.mono hH.zin) (by have := hq9; unfold maxLen; omega) (by have := hq9; omega) ?_)
 clear hH; intro v50 w51 hH
 obtain ⟨A46, c47, rfl, hl48, hm49⟩ := hH.vw_form 1 rfl
 refine glo 2 [(10, .bool false), (54, .slice A46 ((b ++ p).length) c47), (56, Pp fb 0)] ?_
 refine gl_st (st_storeK (v := .slice A46 ((b ++ p).length) c47) 0 rfl rfl rfl hH rfl rfl rfl (by kernel_rfl) rfl (by simp) ?_)
 clear hH; intro w52 hH
 refine gl_dn rfl ?_
 refine sw_seq ?_
 refine sw_sr ?_
 refine glo 1 [(57, .bool false)] ?_
 refine gl_dn rfl ?_
 refine sw_false rfl rfl ?_
 refine sw_skip ?_
 refine sw_next ?_
 refine sw_sr ?_
 refine glo 1 [(6, .nilIface)] ?_
 refine gl_dn rfl ?_
 refine sw_ret ?_
 refine ret1 rfl rfl  ?_
 replace hH : Hp w w52 _ _ (f1O ⟨nm, fb, (.slice A46 (b ++ p).length c47), b ++ p, sr⟩ :: f2O ⟨nm, fb, (.slice A46 (b ++ p).length c47), b ++ p, sr⟩ :: restO es (ixE es nm) :: [.smap mb (kvE es), .blk db 70 [.map (some mb), .bool D2.off, arV D2.ar ab], .grp (armO D2.ar ab)]) := hH
 replace hH := fil_in (List.getElem?_eq_some_iff.1 he).1 hH
 have hkv : kvE es = kvE (es.set (ixE es nm) ⟨nm, fb, (.slice A46 (b ++ p).length c47), b ++ p, sr⟩) := (kvE_set (e' := ⟨nm, fb, (.slice A46 (b ++ p).length c47), b ++ p, sr⟩) he rfl rfl).symm
 replace hH := hH.cast (os' := [filsO (es.set (ixE es nm) ⟨nm, fb, (.slice A46 (b ++ p).length c47), b ++ p, sr⟩), .smap mb (kvE (es.set (ixE es nm) ⟨nm, fb, (.slice A46 (b ++ p).length c47), b ++ p, sr⟩)), .blk db 70 [.map (some mb), .bool D2.off, arV D2.ar ab], .grp (armO D2.ar ab)]) (by rw [← hkv])
 replace hH := hH.fr4.fr2.fr3.fr4
 replace hH : Hp w w52 _ _ [_, _, _, _] := (hH.sublist (slk (slk (slk (slk sln)))))
 exact fin_app (cu := false) (pt := pt) (D2 := D2) p hm0 hcut (by simp) (by unfold doF; rw [hold]; exact rep_set hR he _ rfl) ((hH.close (r := [])).turned)
end Go.Proofs.YtajapgjemefoiaaGreatDoor
