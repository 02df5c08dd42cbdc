/- Names (layer 3): what the program and the document call a name: what their functions answer. -/
import Derived.Test.YtjcchjgkkplamaaGreatDoorCalc
import Derived.Test.YtjcchjgkkplamaaGreatDoorProg
set_option maxRecDepth 100000
set_option maxHeartbeats 2000000
set_option linter.unusedVariables false
set_option linter.unusedSimpArgs false
namespace Go.Proofs.YtjcchjgkkplamaaGreatDoor
open Go.RowKit Go.SW
def letN (c : Nat) : Bool := decide (65 ≤ c ∧ c ≤ 90 ∨ 97 ≤ c ∧ c ≤ 122 ∨ c = 95)
def digN (c : Nat) : Bool := decide (48 ≤ c ∧ c ≤ 57)
theorem or32 : ∀ c : Nat, c < 256 → ((97 ≤ c ||| 32 ∧ c ||| 32 ≤ 122) ↔ (65 ≤ c ∧ c ≤ 90 ∨ 97 ≤ c ∧ c ≤ 122)) := of_decide_eq_true (by kernel_rfl)
def okN (l : List UInt8) (i : Nat) : Bool := letN (gb l i) || (i != 0 && digN (gb l i))
/-- How many bytes of a name stand at the front. -/
def nameN (l : List UInt8) : Nat := ((List.range l.length).find? fun i => !okN l i).getD l.length
theorem nameN_some {l : List UInt8} {i : Nat} (hi : i < l.length) (hb : ∀ j : Nat, j < i → okN l j = true) (hn : okN l i = false) : nameN l = i := by
  unfold nameN
  rw [List.find?_range_eq_some.2 ⟨by simp [hn], List.mem_range.2 hi, fun j hj => by simp [hb j hj]⟩]; rfl
theorem nameN_none {l : List UInt8} (hb : ∀ j : Nat, j < l.length → okN l j = true) : nameN l = l.length := by
  unfold nameN
  rw [List.find?_range_eq_none.2 (fun j hj => by simp [hb j hj])]; rfl
def nameB (l : List UInt8) : Bool := decide (nameN l = l.length ∧ 1 ≤ l.length ∧ l.length ≤ 32)
theorem ok_not {l : List UInt8} {i : Nat} (h : letN (gb l i) = false) (h2 : i = 0 ∨ digN (gb l i) = false) : okN l i = false := by
  unfold okN
  rw [h, Bool.false_or]
  rcases h2 with rfl | h2
  · rfl
  · rw [h2, Bool.and_false]
theorem ok_dig {l : List UInt8} {i : Nat} (h : i ≠ 0) (h2 : digN (gb l i) = true) : okN l i = true := by
  unfold okN
  rw [h2, show (i != 0) = true from by simpa using h]; simp
theorem ok_let {l : List UInt8} {i : Nat} (h : letN (gb l i) = true) : okN l i = true := by unfold okN; rw [h, Bool.true_or]
theorem all_next {p : Nat → Bool} {i : Nat} (h : ∀ j : Nat, j < i → p j = true) (hi : p i = true) : ∀ j : Nat, j < i + 1 → p j = true := fun j hj => (Nat.lt_succ_iff_lt_or_eq.1 hj).elim (h j) (fun e => e ▸ hi)

theorem Letter_ct (c : Nat) (w : World) (hc : c < 256) :
    Fun Tryz.prog 108 [.int .u8 (c : Nat)] w fun v w' => v = .bool (letN c) ∧ Fresh w w' [] := by
  have hor := or32 c hc
  refine fun_of_sw Tryz.func108 rfl 15 rfl rfl ?_
  have hH := Hp.start w
  refine sw_sr ?_
  refine gl_ops 1 [(0, .int .u8 ((c : Nat) : Int))] (by kernel_rfl) ?_
  refine gl_dn rfl ?_
  refine sw_sr ?_
  refine gl_ops 2 [(0, .int .u8 ((c : Nat) : Int)), (4, .int .u8 (IntKind.u8.wrap (((BitVec.ofInt 8 ((c : Nat) : Int) ||| BitVec.ofInt 8 32).toNat : Nat) : Int)))] (by kernel_rfl) ?_
  refine gl_cv 4 (.int .u8 ((c ||| 32 : Nat) : Int)) (cv_or_u8 (by omega) (by omega)) rfl ?_
  refine gl_ops 2 [(0, .int .u8 ((c : Nat) : Int)), (6, .bool (decide ((97 : Int) ≤ ((c ||| 32 : Nat) : Int))))] (by kernel_rfl) ?_
  refine gl_split 6 (b := decide ((97 : Int) ≤ ((c ||| 32 : Nat) : Int))) rfl (fun hg1 => ?_) (fun hg1 => ?_)
  ·
    try simp only [decide_eq_true_eq] at hg1
    refine gl_ops 2 [(0, .int .u8 ((c : Nat) : Int)), (6, .bool true), (8, .int .u8 (IntKind.u8.wrap (((BitVec.ofInt 8 ((c : Nat) : Int) ||| BitVec.ofInt 8 32).toNat : Nat) : Int)))] (by kernel_rfl) ?_
    refine gl_cv 8 (.int .u8 ((c ||| 32 : Nat) : Int)) (cv_or_u8 (by omega) (by omega)) rfl ?_
    refine gl_ops 3 [(0, .int .u8 ((c : Nat) : Int)), (11, .bool (decide (((c ||| 32 : Nat) : Int) ≤ (122 : Int))))] (by kernel_rfl) ?_
    refine gl_split 11 (b := decide (((c ||| 32 : Nat) : Int) ≤ (122 : Int))) rfl (fun hg2 => ?_) (fun hg2 => ?_)
    ·
      try simp only [decide_eq_true_eq] at hg2
      refine gl_ops 4 [(2, .bool true)] (by kernel_rfl) ?_
      refine gl_dn rfl ?_
      refine sw_ret ?_
      refine ret1 rfl rfl  ?_
      generalize c ||| 32 = q at *
      exact ⟨by congr 1; rw [Bool.eq_iff_iff]; simp [letN] <;> omega, (hH.sublist (List.nil_sublist _)).fresh⟩
    try simp only [decide_eq_false_iff_not, Int.not_lt, Int.not_le] at hg2
    refine gl_ops 4 [(2, .bool (((c : Nat) : Int) == (95 : Int)))] (by kernel_rfl) ?_
    refine gl_dn rfl ?_
    refine sw_ret ?_
    refine ret1 rfl rfl  ?_
    generalize c ||| 32 = q at *
    exact ⟨by congr 1; rw [Bool.eq_iff_iff]; simp [letN] <;> omega, (hH.sublist (List.nil_sublist _)).fresh⟩
  try simp only [decide_eq_false_iff_not, Int.not_lt, Int.not_le] at hg1
  refine gl_ops 9 [(2, .bool (((c : Nat) : Int) == (95 : Int)))] (by kernel_rfl) ?_
  refine gl_dn rfl ?_
  refine sw_ret ?_
  refine ret1 rfl rfl  ?_
  generalize c ||| 32 = q at *
  exact ⟨by congr 1; rw [Bool.eq_iff_iff]; simp [letN] <;> omega, (hH.sublist (List.nil_sublist _)).fresh⟩
theorem Digit_ct (c : Nat) (w : World) (hc : c < 256) :
    Fun Tryz.prog 109 [.int .u8 (c : Nat)] w fun v w' => v = .bool (digN c) ∧ Fresh w w' [] := by
  refine fun_of_sw Tryz.func109 rfl 9 rfl rfl ?_
  have hH := Hp.start w
  refine sw_sr ?_
  refine gl_ops 1 [(0, .int .u8 ((c : Nat) : Int))] (by kernel_rfl) ?_
  refine gl_dn rfl ?_
  refine sw_sr ?_
  refine gl_ops 3 [(0, .int .u8 ((c : Nat) : Int)), (5, .bool (decide ((48 : Int) ≤ ((c : Nat) : Int))))] (by kernel_rfl) ?_
  refine gl_split 5 (b := decide ((48 : Int) ≤ ((c : Nat) : Int))) rfl (fun hg1 => ?_) (fun hg1 => ?_)
  ·
    try simp only [decide_eq_true_eq] at hg1
    refine gl_ops 4 [(2, .bool (decide (((c : Nat) : Int) ≤ (57 : Int))))] (by kernel_rfl) ?_
    refine gl_dn rfl ?_
    refine sw_ret ?_
    refine ret1 rfl rfl  ?_
    exact ⟨by congr 1; rw [Bool.eq_iff_iff]; simp [digN] <;> omega, (hH.sublist (List.nil_sublist _)).fresh⟩
  try simp only [decide_eq_false_iff_not, Int.not_lt, Int.not_le] at hg1
  refine gl_ops 4 [(2, .bool false)] (by kernel_rfl) ?_
  refine gl_dn rfl ?_
  refine sw_ret ?_
  refine ret1 rfl rfl  ?_
  exact ⟨by congr 1; rw [Bool.eq_iff_iff]; simp [digN] <;> omega, (hH.sublist (List.nil_sublist _)).fresh⟩
theorem RLetter_ct (c : Nat) (w : World) (hc : c < 256) :
    Fun Tryz.prog 110 [.int .u8 (c : Nat)] w fun v w' => v = .bool (letN c) ∧ Fresh w w' [] := by
  refine fun_of_sw Tryz.func110 rfl 21 rfl rfl ?_
  have hH := Hp.start w
  refine sw_sr ?_
  refine gl_ops 1 [(0, .int .u8 ((c : Nat) : Int))] (by kernel_rfl) ?_
  refine gl_dn rfl ?_
  refine sw_sr ?_
  refine gl_ops 3 [(0, .int .u8 ((c : Nat) : Int)), (5, .bool (decide (((c : Nat) : Int) ≥ (65 : Int))))] (by kernel_rfl) ?_
  refine gl_split 5 (b := decide (((c : Nat) : Int) ≥ (65 : Int))) rfl (fun hg1 => ?_) (fun hg1 => ?_)
  ·
    try simp only [decide_eq_true_eq] at hg1
    refine gl_ops 4 [(0, .int .u8 ((c : Nat) : Int)), (9, .bool (decide (((c : Nat) : Int) ≤ (90 : Int))))] (by kernel_rfl) ?_
    refine gl_split 9 (b := decide (((c : Nat) : Int) ≤ (90 : Int))) rfl (fun hg2 => ?_) (fun hg2 => ?_)
    ·
      try simp only [decide_eq_true_eq] at hg2
      refine gl_ops 12 [(2, .bool true)] (by kernel_rfl) ?_
      refine gl_dn rfl ?_
      refine sw_ret ?_
      refine ret1 rfl rfl  ?_
      exact ⟨by congr 1; rw [Bool.eq_iff_iff]; simp [letN] <;> omega, (hH.sublist (List.nil_sublist _)).fresh⟩
    try simp only [decide_eq_false_iff_not, Int.not_lt, Int.not_le] at hg2
    refine gl_ops 3 [(0, .int .u8 ((c : Nat) : Int)), (9, .bool false), (12, .bool (decide (((c : Nat) : Int) ≥ (97 : Int))))] (by kernel_rfl) ?_
    refine gl_split 12 (b := decide (((c : Nat) : Int) ≥ (97 : Int))) rfl (fun hg3 => ?_) (fun hg3 => ?_)
    ·
      try simp only [decide_eq_true_eq] at hg3
      refine gl_ops 5 [(0, .int .u8 ((c : Nat) : Int)), (17, .bool (decide (((c : Nat) : Int) ≤ (122 : Int))))] (by kernel_rfl) ?_
      refine gl_split 17 (b := decide (((c : Nat) : Int) ≤ (122 : Int))) rfl (fun hg4 => ?_) (fun hg4 => ?_)
      ·
        try simp only [decide_eq_true_eq] at hg4
        refine gl_ops 4 [(2, .bool true)] (by kernel_rfl) ?_
        refine gl_dn rfl ?_
        refine sw_ret ?_
        refine ret1 rfl rfl  ?_
        exact ⟨by congr 1; rw [Bool.eq_iff_iff]; simp [letN] <;> omega, (hH.sublist (List.nil_sublist _)).fresh⟩
      try simp only [decide_eq_false_iff_not, Int.not_lt, Int.not_le] at hg4
      refine gl_ops 4 [(2, .bool (((c : Nat) : Int) == (95 : Int)))] (by kernel_rfl) ?_
      refine gl_dn rfl ?_
      refine sw_ret ?_
      refine ret1 rfl rfl  ?_
      exact ⟨by congr 1; rw [Bool.eq_iff_iff]; simp [letN] <;> omega, (hH.sublist (List.nil_sublist _)).fresh⟩
    try simp only [decide_eq_false_iff_not, Int.not_lt, Int.not_le] at hg3
    refine gl_ops 9 [(2, .bool (((c : Nat) : Int) == (95 : Int)))] (by kernel_rfl) ?_
    refine gl_dn rfl ?_
    refine sw_ret ?_
    refine ret1 rfl rfl  ?_
    exact ⟨by congr 1; rw [Bool.eq_iff_iff]; simp [letN] <;> omega, (hH.sublist (List.nil_sublist _)).fresh⟩
  try simp only [decide_eq_false_iff_not, Int.not_lt, Int.not_le] at hg1
  refine gl_ops 7 [(0, .int .u8 ((c : Nat) : Int)), (9, .bool false), (12, .bool (decide (((c : Nat) : Int) ≥ (97 : Int))))] (by kernel_rfl) ?_
  refine gl_split 12 (b := decide (((c : Nat) : Int) ≥ (97 : Int))) rfl (fun hg5 => ?_) (fun hg5 => ?_)
  ·
    try simp only [decide_eq_true_eq] at hg5
    refine gl_ops 5 [(0, .int .u8 ((c : Nat) : Int)), (17, .bool (decide (((c : Nat) : Int) ≤ (122 : Int))))] (by kernel_rfl) ?_
    refine gl_split 17 (b := decide (((c : Nat) : Int) ≤ (122 : Int))) rfl (fun hg6 => ?_) (fun hg6 => ?_)
    ·
      try simp only [decide_eq_true_eq] at hg6
      refine gl_ops 4 [(2, .bool true)] (by kernel_rfl) ?_
      refine gl_dn rfl ?_
      refine sw_ret ?_
      refine ret1 rfl rfl  ?_
      exact ⟨by congr 1; rw [Bool.eq_iff_iff]; simp [letN] <;> omega, (hH.sublist (List.nil_sublist _)).fresh⟩
    try simp only [decide_eq_false_iff_not, Int.not_lt, Int.not_le] at hg6
    refine gl_ops 4 [(2, .bool (((c : Nat) : Int) == (95 : Int)))] (by kernel_rfl) ?_
    refine gl_dn rfl ?_
    refine sw_ret ?_
    refine ret1 rfl rfl  ?_
    exact ⟨by congr 1; rw [Bool.eq_iff_iff]; simp [letN] <;> omega, (hH.sublist (List.nil_sublist _)).fresh⟩
  try simp only [decide_eq_false_iff_not, Int.not_lt, Int.not_le] at hg5
  refine gl_ops 9 [(2, .bool (((c : Nat) : Int) == (95 : Int)))] (by kernel_rfl) ?_
  refine gl_dn rfl ?_
  refine sw_ret ?_
  refine ret1 rfl rfl  ?_
  exact ⟨by congr 1; rw [Bool.eq_iff_iff]; simp [letN] <;> omega, (hH.sublist (List.nil_sublist _)).fresh⟩
theorem RDigit_ct (c : Nat) (w : World) (hc : c < 256) :
    Fun Tryz.prog 111 [.int .u8 (c : Nat)] w fun v w' => v = .bool (digN c) ∧ Fresh w w' [] := by
  refine fun_of_sw Tryz.func111 rfl 9 rfl rfl ?_
  have hH := Hp.start w
  refine sw_sr ?_
  refine gl_ops 1 [(0, .int .u8 ((c : Nat) : Int))] (by kernel_rfl) ?_
  refine gl_dn rfl ?_
  refine sw_sr ?_
  refine gl_ops 3 [(0, .int .u8 ((c : Nat) : Int)), (5, .bool (decide (((c : Nat) : Int) ≥ (48 : Int))))] (by kernel_rfl) ?_
  refine gl_split 5 (b := decide (((c : Nat) : Int) ≥ (48 : Int))) rfl (fun hg1 => ?_) (fun hg1 => ?_)
  ·
    try simp only [decide_eq_true_eq] at hg1
    refine gl_ops 4 [(2, .bool (decide (((c : Nat) : Int) ≤ (57 : Int))))] (by kernel_rfl) ?_
    refine gl_dn rfl ?_
    refine sw_ret ?_
    refine ret1 rfl rfl  ?_
    exact ⟨by congr 1; rw [Bool.eq_iff_iff]; simp [digN] <;> omega, (hH.sublist (List.nil_sublist _)).fresh⟩
  try simp only [decide_eq_false_iff_not, Int.not_lt, Int.not_le] at hg1
  refine gl_ops 4 [(2, .bool false)] (by kernel_rfl) ?_
  refine gl_dn rfl ?_
  refine sw_ret ?_
  refine ret1 rfl rfl  ?_
  exact ⟨by congr 1; rw [Bool.eq_iff_iff]; simp [digN] <;> omega, (hH.sublist (List.nil_sublist _)).fresh⟩
theorem LexName0_ct (s : List UInt8) (w : World) (hs : s.length ≤ 32) :
    Fun Tryz.prog 94 [.string (bs s)] w fun v w' => v = .int .i64 ((nameN s : Nat) : Int) ∧ Fresh w w' [] := by
  refine fun_of_sw Tryz.func94 rfl 29 rfl rfl ?_
  have hH := Hp.start w
  refine sw_sr ?_
  refine gl_ops 1 [(0, .string (bs s))] (by kernel_rfl) ?_
  refine gl_dn rfl ?_
  refine sw_seq ?_
  refine sw_sr ?_
  refine gl_ops 2 [(0, .string (bs s)), (5, .int .i64 (((bs s).size : Nat) : Int))] (by kernel_rfl) ?_
  refine gl_cv 5 (Ni s.length) (by rw [bs_size]) rfl ?_
  refine gl_ops 1 [(0, .string (bs s)), (5, Ni s.length), (6, .int .i64 0)] (by kernel_rfl) ?_
  refine gl_dn rfl ?_
  refine sw_block ?_
  refine sw_loop (γ := Nat) (fun i => [(0, .string (bs s)), (5, Ni s.length), (6, Ni i)]) (fun i w_ => (i ≤ s.length) ∧ (∀ j : Nat, j < i → okN s j = true) ∧ Hp w w_ (w.cell?) [] []) (fun i => s.length - i) (0) (Sub.of_eq (by kernel_rfl)) ?_ ?_
  · exact ⟨by omega, fun j hj => absurd hj (by omega), hH⟩
  clear hH
  rintro i w1 ⟨hi, hall, hH⟩
  refine sw_keep [(0, .string (bs s)), (5, Ni s.length), (6, Ni i)] (by kernel_rfl) ?_
  refine sw_sr ?_
  refine gl_ops 1 [(0, .string (bs s)), (5, Ni s.length), (6, Ni i), (7, .bool (decide (((i : Nat) : Int) < ((s.length : Nat) : Int))))] (by kernel_rfl) ?_
  refine gl_dn rfl ?_
  refine sw_seq ?_
  refine sw_cond rfl rfl (fun hc1 => ?_) (fun hc1 => ?_)
  ·
    try simp only [decide_eq_true_eq] at hc1
    refine sw_skip ?_
    refine sw_next ?_
    refine sw_seq ?_
    refine sw_block ?_
    refine sw_sr ?_
    refine gl_ops 2 [(0, .string (bs s)), (3, Ni i), (5, Ni s.length), (6, Ni i)] (by kernel_rfl) ?_
    refine gl_dn rfl ?_
    refine sw_sr ?_
    refine gl_ops 2 [(0, .string (bs s)), (3, Ni i), (5, Ni s.length), (6, Ni i), (9, .string (bs s)), (10, Ni i)] (by kernel_rfl) ?_
    refine gl_q rfl rfl rfl (rd_sidx (by kernel_rfl) rfl i rfl (by omega)) ?_
    refine gl_st (st_call rfl rfl rfl (by kernel_rfl) rfl (Letter_ct (gb s i) _ (gb_lt _ _)) ?_)
    rintro _ w2 ⟨rfl, hF3⟩
    replace hH := hH.call hF3; clear hF3
    refine gl_ops 2 [(0, .string (bs s)), (3, Ni i), (5, Ni s.length), (6, Ni i), (14, .bool (!(letN (gb s i))))] (by kernel_rfl) ?_
    refine gl_split 14 (b := !(letN (gb s i))) rfl (fun hg2 => ?_) (fun hg2 => ?_)
    ·
      try simp only [Bool.not_eq_true'] at hg2
      have hL0 := hg2
      refine gl_ops 3 [(0, .string (bs s)), (3, Ni i), (5, Ni s.length), (6, Ni i), (14, .bool true), (17, .bool (((i : Nat) : Int) == (0 : Int)))] (by kernel_rfl) ?_
      refine gl_split 17 (b := ((i : Nat) : Int) == (0 : Int)) rfl (fun hg3 => ?_) (fun hg3 => ?_)
      ·
        try simp only [beq_iff_eq] at hg3
        have hZ0 := hg3
        refine gl_ops 7 [(0, .string (bs s)), (3, Ni i), (5, Ni s.length), (6, Ni i), (24, .bool true)] (by kernel_rfl) ?_
        refine gl_dn rfl ?_
        refine sw_true rfl rfl ?_
        refine sw_sr ?_
        refine gl_ops 2 [(2, Ni i)] (by kernel_rfl) ?_
        refine gl_dn rfl ?_
        refine sw_ret ?_
        refine bkR ?_
        refine thR ?_
        refine thR ?_
        refine bkR ?_
        refine thR ?_
        refine ret1 rfl rfl  ?_
        exact ⟨by rw [nameN_some (by omega) hall (ok_not hL0 (.inl (by omega)))], (hH.sublist (List.nil_sublist _)).fresh⟩
      try simp only [beq_eq_false_iff_ne, ne_eq] at hg3
      have hZ1 := hg3
      refine gl_ops 2 [(0, .string (bs s)), (3, Ni i), (5, Ni s.length), (6, Ni i), (14, .bool true), (17, .bool false), (18, .string (bs s)), (19, Ni i)] (by kernel_rfl) ?_
      refine gl_q rfl rfl rfl (rd_sidx (by kernel_rfl) rfl i rfl (by omega)) ?_
      refine gl_st (st_call rfl rfl rfl (by kernel_rfl) rfl (Digit_ct (gb s i) _ (gb_lt _ _)) ?_)
      rintro _ w4 ⟨rfl, hF5⟩
      replace hH := hH.call hF5; clear hF5
      refine gl_ops 3 [(0, .string (bs s)), (3, Ni i), (5, Ni s.length), (6, Ni i), (24, .bool (!(digN (gb s i))))] (by kernel_rfl) ?_
      refine gl_dn rfl ?_
      refine sw_cond rfl rfl (fun hc5 => ?_) (fun hc5 => ?_)
      ·
        try simp only [Bool.not_eq_true'] at hc5
        have hD0 := hc5
        refine sw_sr ?_
        refine gl_ops 2 [(2, Ni i)] (by kernel_rfl) ?_
        refine gl_dn rfl ?_
        refine sw_ret ?_
        refine bkR ?_
        refine thR ?_
        refine thR ?_
        refine bkR ?_
        refine thR ?_
        refine ret1 rfl rfl  ?_
        exact ⟨by rw [nameN_some (by omega) hall (ok_not hL0 (.inr hD0))], (hH.sublist (List.nil_sublist _)).fresh⟩
      try simp only [Bool.not_eq_false'] at hc5
      have hD1 := hc5
      refine sw_skip ?_
      refine bkN ?_
      refine sw_next ?_
      refine sw_region ?_
      refine gl_ops 1 [(0, .string (bs s)), (5, Ni s.length), (26, .int .i64 (IntKind.i64.wrap (((i : Nat) : Int) + 1)))] (by kernel_rfl) ?_
      refine gl_cv 26 (Ni (i + 1)) (cv_i64 (by omega)) rfl ?_
      refine gl_ops 1 [(0, .string (bs s)), (5, Ni s.length), (6, Ni (i + 1))] (by kernel_rfl) ?_
      refine gl_done rfl ?_
      refine rnd_end (g := (i)) (i + 1) (by kernel_rfl) ?_ ?_
      · exact ⟨by omega, all_next hall (by first | exact ok_let hL1 | exact ok_dig (by omega) hD1), hH⟩
      · show s.length - (i + 1) < s.length - i; omega
    try simp only [Bool.not_eq_false'] at hg2
    have hL1 := hg2
    refine gl_ops 10 [(0, .string (bs s)), (3, Ni i), (5, Ni s.length), (6, Ni i), (24, .bool false)] (by kernel_rfl) ?_
    refine gl_dn rfl ?_
    refine sw_false rfl rfl ?_
    refine sw_skip ?_
    refine bkN ?_
    refine sw_next ?_
    refine sw_region ?_
    refine gl_ops 1 [(0, .string (bs s)), (5, Ni s.length), (26, .int .i64 (IntKind.i64.wrap (((i : Nat) : Int) + 1)))] (by kernel_rfl) ?_
    refine gl_cv 26 (Ni (i + 1)) (cv_i64 (by omega)) rfl ?_
    refine gl_ops 1 [(0, .string (bs s)), (5, Ni s.length), (6, Ni (i + 1))] (by kernel_rfl) ?_
    refine gl_done rfl ?_
    refine rnd_end (g := (i)) (i + 1) (by kernel_rfl) ?_ ?_
    · exact ⟨by omega, all_next hall (by first | exact ok_let hL1 | exact ok_dig (by omega) hD1), hH⟩
    · show s.length - (i + 1) < s.length - i; omega
  try simp only [decide_eq_false_iff_not, Int.not_lt, Int.not_le] at hc1
  refine sw_exit ?_
  refine thX ?_
  refine thX ?_
  refine bkH ?_
  refine sw_next ?_
  refine sw_sr ?_
  refine gl_ops 2 [(28, .int .i64 (((bs s).size : Nat) : Int))] (by kernel_rfl) ?_
  refine gl_cv 28 (Ni s.length) (by rw [bs_size]) rfl ?_
  refine gl_ops 1 [(2, Ni s.length)] (by kernel_rfl) ?_
  refine gl_dn rfl ?_
  refine sw_ret ?_
  refine ret1 rfl rfl  ?_
  exact ⟨by rw [nameN_none (fun j hj => hall j (by omega))], (hH.sublist (List.nil_sublist _)).fresh⟩
theorem Letters_ct (s : List UInt8) (w : World) (hs : s.length ≤ 140737488355328) :
    Fun Tryz.prog 95 [.string (bs s), .int .i64 0] w fun v w' => v = .int .i64 ((nameN s : Nat) : Int) ∧ Fresh w w' [] := by
  refine fun_of_sw Tryz.func95 rfl 39 rfl rfl ?_
  have hH := Hp.start w
  refine sw_sr ?_
  refine gl_ops 1 [(0, .string (bs s)), (1, .int .i64 0)] (by kernel_rfl) ?_
  refine gl_dn rfl ?_
  refine sw_sr ?_
  refine gl_ops 1 [(0, .string (bs s)), (1, .int .i64 0), (5, .int .i64 0)] (by kernel_rfl) ?_
  refine gl_dn rfl ?_
  refine sw_seq ?_
  refine sw_block ?_
  refine sw_loop (γ := Nat) (fun i => [(0, .string (bs s)), (1, .int .i64 0), (5, Ni i)]) (fun i w_ => (i ≤ s.length) ∧ (∀ j : Nat, j < i → okN s j = true) ∧ Hp w w_ (w.cell?) [] []) (fun i => s.length - i) (0) (Sub.of_eq (by kernel_rfl)) ?_ ?_
  · exact ⟨by omega, fun j hj => absurd hj (by omega), hH⟩
  clear hH
  rintro i w1 ⟨hi, hall, hH⟩
  refine sw_keep [(0, .string (bs s)), (1, .int .i64 0), (5, Ni i)] (by kernel_rfl) ?_
  refine sw_seq ?_
  refine sw_sr ?_
  refine gl_ops 3 [(0, .string (bs s)), (1, .int .i64 0), (5, Ni i), (10, .int .i64 (IntKind.i64.wrap (0 + ((i : Nat) : Int))))] (by kernel_rfl) ?_
  refine gl_cv 10 (Ni (0 + i)) (cv_i64 (by omega)) rfl ?_
  refine gl_cv 10 (Ni i) (by rw [Nat.zero_add]) rfl ?_
  refine gl_ops 2 [(0, .string (bs s)), (1, .int .i64 0), (5, Ni i), (10, Ni i), (12, .int .i64 (((bs s).size : Nat) : Int))] (by kernel_rfl) ?_
  refine gl_cv 12 (Ni s.length) (by rw [bs_size]) rfl ?_
  refine gl_ops 1 [(0, .string (bs s)), (1, .int .i64 0), (5, Ni i), (13, .bool (decide (((i : Nat) : Int) < ((s.length : Nat) : Int))))] (by kernel_rfl) ?_
  refine gl_dn rfl ?_
  refine sw_cond rfl rfl (fun hc1 => ?_) (fun hc1 => ?_)
  ·
    try simp only [decide_eq_true_eq] at hc1
    refine sw_skip ?_
    refine sw_next ?_
    refine sw_block ?_
    refine sw_sr ?_
    refine gl_ops 4 [(0, .string (bs s)), (1, .int .i64 0), (5, Ni i), (14, .string (bs s)), (17, .int .i64 (IntKind.i64.wrap (0 + ((i : Nat) : Int))))] (by kernel_rfl) ?_
    refine gl_cv 17 (Ni (0 + i)) (cv_i64 (by omega)) rfl ?_
    refine gl_cv 17 (Ni i) (by rw [Nat.zero_add]) rfl ?_
    refine gl_q rfl rfl rfl (rd_sidx (by kernel_rfl) rfl i rfl (by omega)) ?_
    refine gl_st (st_call rfl rfl rfl (by kernel_rfl) rfl (RLetter_ct (gb s i) _ (gb_lt _ _)) ?_)
    rintro _ w2 ⟨rfl, hF3⟩
    replace hH := hH.call hF3; clear hF3
    refine gl_ops 1 [(0, .string (bs s)), (1, .int .i64 0), (5, Ni i), (6, .bool (letN (gb s i)))] (by kernel_rfl) ?_
    refine gl_dn rfl ?_
    refine sw_sr ?_
    refine gl_ops 4 [(0, .string (bs s)), (1, .int .i64 0), (5, Ni i), (6, .bool (letN (gb s i))), (20, .string (bs s)), (23, .int .i64 (IntKind.i64.wrap (0 + ((i : Nat) : Int))))] (by kernel_rfl) ?_
    refine gl_cv 23 (Ni (0 + i)) (cv_i64 (by omega)) rfl ?_
    refine gl_cv 23 (Ni i) (by rw [Nat.zero_add]) rfl ?_
    refine gl_q rfl rfl rfl (rd_sidx (by kernel_rfl) rfl i rfl (by omega)) ?_
    refine gl_st (st_call rfl rfl rfl (by kernel_rfl) rfl (RDigit_ct (gb s i) _ (gb_lt _ _)) ?_)
    rintro _ w4 ⟨rfl, hF5⟩
    replace hH := hH.call hF5; clear hF5
    refine gl_ops 1 [(0, .string (bs s)), (1, .int .i64 0), (5, Ni i), (6, .bool (letN (gb s i))), (7, .bool (digN (gb s i)))] (by kernel_rfl) ?_
    refine gl_dn rfl ?_
    refine sw_seq ?_
    refine sw_sr ?_
    refine gl_ops 3 [(0, .string (bs s)), (1, .int .i64 0), (5, Ni i), (7, .bool (digN (gb s i))), (28, .bool (!(letN (gb s i))))] (by kernel_rfl) ?_
    refine gl_split 28 (b := !(letN (gb s i))) rfl (fun hg2 => ?_) (fun hg2 => ?_)
    ·
      try simp only [Bool.not_eq_true'] at hg2
      have hL0 := hg2
      refine gl_ops 3 [(0, .string (bs s)), (1, .int .i64 0), (5, Ni i), (28, .bool true), (31, .bool (!(digN (gb s i))))] (by kernel_rfl) ?_
      refine gl_split 31 (b := !(digN (gb s i))) rfl (fun hg3 => ?_) (fun hg3 => ?_)
      ·
        try simp only [Bool.not_eq_true'] at hg3
        have hD0 := hg3
        refine gl_ops 4 [(0, .string (bs s)), (1, .int .i64 0), (5, Ni i), (35, .bool true)] (by kernel_rfl) ?_
        refine gl_dn rfl ?_
        refine sw_true rfl rfl ?_
        refine sw_exit ?_
        refine thX ?_
        refine bkX rfl ?_
        refine thX ?_
        refine bkH ?_
        refine sw_next ?_
        refine sw_sr ?_
        refine gl_ops 2 [(4, Ni i)] (by kernel_rfl) ?_
        refine gl_dn rfl ?_
        refine sw_ret ?_
        refine ret1 rfl rfl  ?_
        exact ⟨by rw [nameN_some (by omega) hall (ok_not hL0 (.inr hD0))], (hH.sublist (List.nil_sublist _)).fresh⟩
      try simp only [Bool.not_eq_false'] at hg3
      have hD1 := hg3
      refine gl_ops 4 [(0, .string (bs s)), (1, .int .i64 0), (5, Ni i), (35, .bool (((i : Nat) : Int) == (0 : Int)))] (by kernel_rfl) ?_
      refine gl_dn rfl ?_
      refine sw_cond rfl rfl (fun hc5 => ?_) (fun hc5 => ?_)
      ·
        try simp only [beq_iff_eq] at hc5
        have hZ0 := hc5
        refine sw_exit ?_
        refine thX ?_
        refine bkX rfl ?_
        refine thX ?_
        refine bkH ?_
        refine sw_next ?_
        refine sw_sr ?_
        refine gl_ops 2 [(4, Ni i)] (by kernel_rfl) ?_
        refine gl_dn rfl ?_
        refine sw_ret ?_
        refine ret1 rfl rfl  ?_
        exact ⟨by rw [nameN_some (by omega) hall (ok_not hL0 (.inl (by omega)))], (hH.sublist (List.nil_sublist _)).fresh⟩
      try simp only [beq_eq_false_iff_ne, ne_eq] at hc5
      have hZ1 := hc5
      refine sw_skip ?_
      refine sw_next ?_
      refine sw_region ?_
      refine gl_ops 2 [(0, .string (bs s)), (1, .int .i64 0), (37, .int .i64 (IntKind.i64.wrap (((i : Nat) : Int) + 1)))] (by kernel_rfl) ?_
      refine gl_cv 37 (Ni (i + 1)) (cv_i64 (by omega)) rfl ?_
      refine gl_ops 1 [(0, .string (bs s)), (1, .int .i64 0), (5, Ni (i + 1))] (by kernel_rfl) ?_
      refine gl_done rfl ?_
      refine bkN ?_
      refine rnd_end (g := (i)) (i + 1) (by kernel_rfl) ?_ ?_
      · exact ⟨by omega, all_next hall (by first | exact ok_let hL1 | exact ok_dig (by omega) hD1), hH⟩
      · show s.length - (i + 1) < s.length - i; omega
    try simp only [Bool.not_eq_false'] at hg2
    have hL1 := hg2
    refine gl_ops 7 [(0, .string (bs s)), (1, .int .i64 0), (5, Ni i), (35, .bool false)] (by kernel_rfl) ?_
    refine gl_dn rfl ?_
    refine sw_false rfl rfl ?_
    refine sw_skip ?_
    refine sw_next ?_
    refine sw_region ?_
    refine gl_ops 2 [(0, .string (bs s)), (1, .int .i64 0), (37, .int .i64 (IntKind.i64.wrap (((i : Nat) : Int) + 1)))] (by kernel_rfl) ?_
    refine gl_cv 37 (Ni (i + 1)) (cv_i64 (by omega)) rfl ?_
    refine gl_ops 1 [(0, .string (bs s)), (1, .int .i64 0), (5, Ni (i + 1))] (by kernel_rfl) ?_
    refine gl_done rfl ?_
    refine bkN ?_
    refine rnd_end (g := (i)) (i + 1) (by kernel_rfl) ?_ ?_
    · exact ⟨by omega, all_next hall (by first | exact ok_let hL1 | exact ok_dig (by omega) hD1), hH⟩
    · show s.length - (i + 1) < s.length - i; omega
  try simp only [decide_eq_false_iff_not, Int.not_lt, Int.not_le] at hc1
  refine sw_exit ?_
  refine thX ?_
  refine thX ?_
  refine bkH ?_
  refine sw_next ?_
  refine sw_sr ?_
  refine gl_ops 2 [(4, Ni i)] (by kernel_rfl) ?_
  refine gl_dn rfl ?_
  refine sw_ret ?_
  refine ret1 rfl rfl  ?_
  exact ⟨by rw [show (i : Nat) = nameN s from by rw [nameN_none (fun j hj => hall j (by omega))]; omega], (hH.sublist (List.nil_sublist _)).fresh⟩
theorem LexName_ct (s : List UInt8) (w : World) (hs : s.length ≤ 140737488355328) :
    Fun Tryz.prog 74 [.string (bs s)] w fun v w' => v = .bool (nameB s) ∧ Fresh w w' [] := by
  refine fun_of_sw Tryz.func74 rfl 17 rfl rfl ?_
  have hH := Hp.start w
  refine sw_sr ?_
  refine gl_ops 1 [(0, .string (bs s))] (by kernel_rfl) ?_
  refine gl_dn rfl ?_
  refine sw_sr ?_
  refine gl_ops 1 [(0, .string (bs s)), (3, .string (bs s))] (by kernel_rfl) ?_
  refine gl_q rfl rfl rfl (rd_sneq (by kernel_rfl) rfl rfl) ?_
  refine gl_ops 1 [(0, .string (bs s)), (5, .bool (!(s == [])))] (by kernel_rfl) ?_
  refine gl_split 5 (b := !(s == [])) rfl (fun hg1 => ?_) (fun hg1 => ?_)
  ·
    try simp only [Bool.not_eq_true', beq_eq_false_iff_ne, ne_eq] at hg1
    have hne : 1 ≤ s.length := List.length_pos_iff.2 hg1
    refine gl_ops 2 [(0, .string (bs s)), (5, .bool true), (7, .int .i64 (((bs s).size : Nat) : Int))] (by kernel_rfl) ?_
    refine gl_cv 7 (Ni s.length) (by rw [bs_size]) rfl ?_
    refine gl_ops 3 [(0, .string (bs s)), (10, .bool (decide (((s.length : Nat) : Int) ≤ (32 : Int))))] (by kernel_rfl) ?_
    refine gl_split 10 (b := decide (((s.length : Nat) : Int) ≤ (32 : Int))) rfl (fun hg2 => ?_) (fun hg2 => ?_)
    ·
      try simp only [decide_eq_true_eq] at hg2
      refine gl_ops 1 [(0, .string (bs s)), (10, .bool true), (11, .string (bs s))] (by kernel_rfl) ?_
      refine gl_st (st_call rfl rfl rfl (by kernel_rfl) rfl (LexName0_ct s _ (by omega)) ?_)
      rintro _ w1 ⟨rfl, hF2⟩
      replace hH := hH.call hF2; clear hF2
      refine gl_ops 2 [(10, .bool true), (12, Ni (nameN s)), (14, .int .i64 (((bs s).size : Nat) : Int))] (by kernel_rfl) ?_
      refine gl_cv 14 (Ni s.length) (by rw [bs_size]) rfl ?_
      refine gl_ops 3 [(2, .bool (((nameN s : Nat) : Int) == ((s.length : Nat) : Int)))] (by kernel_rfl) ?_
      refine gl_dn rfl ?_
      refine sw_ret ?_
      refine ret1 rfl rfl  ?_
      exact ⟨by congr 1; rw [Bool.eq_iff_iff]; unfold nameB; simp only [decide_eq_true_eq, beq_iff_eq, Bool.false_eq_true, false_iff]; omega, (hH.sublist (List.nil_sublist _)).fresh⟩
    try simp only [decide_eq_false_iff_not, Int.not_lt, Int.not_le] at hg2
    refine gl_ops 7 [(2, .bool false)] (by kernel_rfl) ?_
    refine gl_dn rfl ?_
    refine sw_ret ?_
    refine ret1 rfl rfl  ?_
    exact ⟨by congr 1; rw [Bool.eq_iff_iff]; unfold nameB; simp only [decide_eq_true_eq, beq_iff_eq, Bool.false_eq_true, false_iff]; omega, (hH.sublist (List.nil_sublist _)).fresh⟩
  try simp only [Bool.not_eq_false', beq_iff_eq] at hg1
  have hne : s.length = 0 := by rw [hg1]; rfl
  refine gl_ops 12 [(2, .bool false)] (by kernel_rfl) ?_
  refine gl_dn rfl ?_
  refine sw_ret ?_
  refine ret1 rfl rfl  ?_
  exact ⟨by congr 1; rw [Bool.eq_iff_iff]; unfold nameB; simp only [decide_eq_true_eq, beq_iff_eq, Bool.false_eq_true, false_iff]; omega, (hH.sublist (List.nil_sublist _)).fresh⟩
theorem RName_ct (s : List UInt8) (w : World) (hs : s.length ≤ 140737488355328) :
    Fun Tryz.prog 76 [.string (bs s)] w fun v w' => v = .bool (nameB s) ∧ Fresh w w' [] := by
  refine fun_of_sw Tryz.func76 rfl 18 rfl rfl ?_
  have hH := Hp.start w
  refine sw_sr ?_
  refine gl_ops 1 [(0, .string (bs s))] (by kernel_rfl) ?_
  refine gl_dn rfl ?_
  refine sw_sr ?_
  refine gl_ops 1 [(0, .string (bs s)), (4, .string (bs s))] (by kernel_rfl) ?_
  refine gl_st (st_call rfl rfl rfl (by kernel_rfl) rfl (Letters_ct s _ hs) ?_)
  rintro _ w1 ⟨rfl, hF2⟩
  replace hH := hH.call hF2; clear hF2
  refine gl_ops 1 [(0, .string (bs s)), (3, Ni (nameN s))] (by kernel_rfl) ?_
  refine gl_dn rfl ?_
  refine sw_sr ?_
  refine gl_ops 3 [(3, Ni (nameN s)), (6, Ni (nameN s)), (8, .int .i64 (((bs s).size : Nat) : Int))] (by kernel_rfl) ?_
  refine gl_cv 8 (Ni s.length) (by rw [bs_size]) rfl ?_
  refine gl_ops 2 [(3, Ni (nameN s)), (10, .bool (((nameN s : Nat) : Int) == ((s.length : Nat) : Int)))] (by kernel_rfl) ?_
  refine gl_split 10 (b := ((nameN s : Nat) : Int) == ((s.length : Nat) : Int)) rfl (fun hg1 => ?_) (fun hg1 => ?_)
  ·
    try simp only [beq_iff_eq] at hg1
    refine gl_ops 4 [(3, Ni (nameN s)), (14, .bool (decide (((nameN s : Nat) : Int) ≥ (1 : Int))))] (by kernel_rfl) ?_
    refine gl_split 14 (b := decide (((nameN s : Nat) : Int) ≥ (1 : Int))) rfl (fun hg2 => ?_) (fun hg2 => ?_)
    ·
      try simp only [decide_eq_true_eq] at hg2
      refine gl_ops 4 [(2, .bool (decide (((nameN s : Nat) : Int) ≤ (32 : Int))))] (by kernel_rfl) ?_
      refine gl_dn rfl ?_
      refine sw_ret ?_
      refine ret1 rfl rfl  ?_
      exact ⟨by congr 1; rw [Bool.eq_iff_iff]; unfold nameB; simp only [decide_eq_true_eq, beq_iff_eq, Bool.false_eq_true, false_iff]; omega, (hH.sublist (List.nil_sublist _)).fresh⟩
    try simp only [decide_eq_false_iff_not, Int.not_lt, Int.not_le] at hg2
    refine gl_ops 4 [(2, .bool false)] (by kernel_rfl) ?_
    refine gl_dn rfl ?_
    refine sw_ret ?_
    refine ret1 rfl rfl  ?_
    exact ⟨by congr 1; rw [Bool.eq_iff_iff]; unfold nameB; simp only [decide_eq_true_eq, beq_iff_eq, Bool.false_eq_true, false_iff]; omega, (hH.sublist (List.nil_sublist _)).fresh⟩
  try simp only [beq_eq_false_iff_ne, ne_eq] at hg1
  refine gl_ops 8 [(2, .bool false)] (by kernel_rfl) ?_
  refine gl_dn rfl ?_
  refine sw_ret ?_
  refine ret1 rfl rfl  ?_
  exact ⟨by congr 1; rw [Bool.eq_iff_iff]; unfold nameB; simp only [decide_eq_true_eq, beq_iff_eq, Bool.false_eq_true, false_iff]; omega, (hH.sublist (List.nil_sublist _)).fresh⟩
end Go.Proofs.YtjcchjgkkplamaaGreatDoor
