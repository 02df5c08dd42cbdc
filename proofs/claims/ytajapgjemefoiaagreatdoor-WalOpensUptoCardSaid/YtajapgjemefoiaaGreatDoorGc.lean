/- Gc: several texts in one. -/
import Derived.Test.YtajapgjemefoiaaGreatDoorGa
import Derived.Test.YtajapgjemefoiaaGreatDoorProg
import Derived.Test.YtajapgjemefoiaaGreatDoorGb
/- Names (layer 3): what the program and the document call a name: what their functions answer. -/
set_option maxRecDepth 100000
set_option maxHeartbeats 2000000
set_option linter.unusedVariables false
set_option linter.unusedSimpArgs false
namespace Go.Proofs.YtajapgjemefoiaaGreatDoor
open Go.RowKit Go.SW
def letN (c : Nat) : Bool := decide (65 ≤ c ∧ c ≤ 90 ∨ 97 ≤ c ∧ c ≤ 122 ∨ c = 95)
def digN (c : Nat) : Bool := decide (48 ≤ c ∧ c ≤ 57)
theorem or32 : ∀ c : Nat, c < 256 → ((97 ≤ c ||| 32 ∧ c ||| 32 ≤ 122) ↔ (65 ≤ c ∧ c ≤ 90 ∨ 97 ≤ c ∧ c ≤ 122)) := of_decide_eq_true (by kernel_rfl)
def okN (l : List UInt8) (i : Nat) : Bool := letN (gb l i) || (i != 0 && digN (gb l i))
def nameN (l : List UInt8) : Nat := ((List.range l.length).find? fun i => !okN l i).getD l.length
theorem nameN_some {l : List UInt8} {i : Nat} (hi : i < l.length) (hb : ∀ j : Nat, j < i → okN l j = true) (hn : okN l i = false) : nameN l = i := by
  unfold nameN
  rw [List.find?_range_eq_some.2 ⟨by simp [hn], List.mem_range.2 hi, fun j hj => by simp [hb j hj]⟩]; rfl
theorem nameN_none {l : List UInt8} (hb : ∀ j : Nat, j < l.length → okN l j = true) : nameN l = l.length := by
  unfold nameN
  rw [List.find?_range_eq_none.2 (fun j hj => by simp [hb j hj])]; rfl
def nameB (l : List UInt8) : Bool := decide (nameN l = l.length ∧ 1 ≤ l.length ∧ l.length ≤ 32)
theorem ok_not {l : List UInt8} {i : Nat} (h : letN (gb l i) = false) (h2 : i = 0 ∨ digN (gb l i) = false) : okN l i = false := by
  unfold okN
  rw [h, Bool.false_or]
  rcases h2 with rfl | h2
  · rfl
  · rw [h2, Bool.and_false]
theorem ok_dig {l : List UInt8} {i : Nat} (h : i ≠ 0) (h2 : digN (gb l i) = true) : okN l i = true := by
  unfold okN
  rw [h2, show (i != 0) = true from by simpa using h]; simp
theorem ok_let {l : List UInt8} {i : Nat} (h : letN (gb l i) = true) : okN l i = true := by unfold okN; rw [h, Bool.true_or]
theorem all_next {p : Nat → Bool} {i : Nat} (h : ∀ j : Nat, j < i → p j = true) (hi : p i = true) : ∀ j : Nat, j < i + 1 → p j = true := fun j hj => (Nat.lt_succ_iff_lt_or_eq.1 hj).elim (h j) (fun e => e ▸ hi)

theorem Letter_ct (c : Nat) (w : World) (hc : c < 256) :
    Fun Tryz.prog 118 [.int .u8 (c : Nat)] w fun v w' => v = .bool (letN c) ∧ Fresh w w' [] := by
 have hor := or32 c hc
 refine fun_of_sw Tryz.func118 rfl 15 rfl rfl ?_
 have hH := Hp.start w
 refine sw_sr <| Go0 1 <| Dn <| sw_sr <| Gc0 2 4 _ (.int .u8 ((c ||| 32 : Nat) : Int)) (cv_or_u8 (by omega) (by omega)) <| Go1 2 6 (.bool (decide ((97 : Int) ≤ ((c ||| 32 : Nat) : Int)))) <| Gi 6 rfl (fun hg1 => ?_) (fun hg1 => ?_)
 refine Gc0 2 8 _ (.int .u8 ((c ||| 32 : Nat) : Int)) (cv_or_u8 (by omega) (by omega)) <| Go1 3 11 (.bool (decide (((c ||| 32 : Nat) : Int) ≤ (122 : Int)))) <| Gi 11 rfl (fun hg2 => ?_) (fun hg2 => ?_)
 refine Go1 4 2 (.bool true) <| Dn <| Rt1 rfl rfl ?_
 generalize c ||| 32 = q at *
 exact ⟨by congr 1; rw [Bool.eq_iff_iff]; simp [letN] <;> omega, (hH.sb sln).fresh⟩
 refine Go1 4 2 (.bool ((c : Int) == (95 : Int))) <| Dn <| Rt1 rfl rfl ?_
 generalize c ||| 32 = q at *
 exact ⟨by congr 1; rw [Bool.eq_iff_iff]; simp [letN] <;> omega, (hH.sb sln).fresh⟩
 refine Go1 9 2 (.bool ((c : Int) == (95 : Int))) <| Dn <| Rt1 rfl rfl ?_
 generalize c ||| 32 = q at *
 exact ⟨by congr 1; rw [Bool.eq_iff_iff]; simp [letN] <;> omega, (hH.sb sln).fresh⟩
theorem Digit_ct (c : Nat) (w : World) (hc : c < 256) :
    Fun Tryz.prog 119 [.int .u8 (c : Nat)] w fun v w' => v = .bool (digN c) ∧ Fresh w w' [] := by
 refine fun_of_sw Tryz.func119 rfl 9 rfl rfl ?_
 have hH := Hp.start w
 refine sw_sr <| Go0 1 <| Dn <| sw_sr <| Go1 3 5 (.bool (decide ((48 : Int) ≤ (c : Int)))) <| Gi 5 rfl (fun hg1 => ?_) (fun hg1 => ?_)
 refine Go1 4 2 (.bool (decide ((c : Int) ≤ (57 : Int)))) <| Dn <| Rt1 rfl rfl ?_
 exact ⟨by congr 1; rw [Bool.eq_iff_iff]; simp [digN] <;> omega, (hH.sb sln).fresh⟩
 refine Go1 4 2 (.bool false) <| Dn <| Rt1 rfl rfl ?_
 exact ⟨by congr 1; rw [Bool.eq_iff_iff]; simp [digN] <;> omega, (hH.sb sln).fresh⟩
theorem RLetter_ct (c : Nat) (w : World) (hc : c < 256) :
    Fun Tryz.prog 120 [.int .u8 (c : Nat)] w fun v w' => v = .bool (letN c) ∧ Fresh w w' [] := by
 refine fun_of_sw Tryz.func120 rfl 21 rfl rfl ?_
 have hH := Hp.start w
 refine sw_sr <| Go0 1 <| Dn <| sw_sr <| Go1 3 5 (.bool (decide ((c : Int) ≥ (65 : Int)))) <| Gi 5 rfl (fun hg1 => ?_) (fun hg1 => ?_)
 refine Go1 4 9 (.bool (decide ((c : Int) ≤ (90 : Int)))) <| Gi 9 rfl (fun hg2 => ?_) (fun hg2 => ?_)
 refine Go1 12 2 (.bool true) <| Dn <| Rt1 rfl rfl ?_
 exact ⟨by congr 1; rw [Bool.eq_iff_iff]; simp [letN] <;> omega, (hH.sb sln).fresh⟩
 refine Go1 3 12 (.bool (decide ((c : Int) ≥ (97 : Int)))) <| Gi 12 rfl (fun hg3 => ?_) (fun hg3 => ?_)
 refine Go1 5 17 (.bool (decide ((c : Int) ≤ (122 : Int)))) <| Gi 17 rfl (fun hg4 => ?_) (fun hg4 => ?_)
 refine Go1 4 2 (.bool true) <| Dn <| Rt1 rfl rfl ?_
 exact ⟨by congr 1; rw [Bool.eq_iff_iff]; simp [letN] <;> omega, (hH.sb sln).fresh⟩
 refine Go1 4 2 (.bool ((c : Int) == (95 : Int))) <| Dn <| Rt1 rfl rfl ?_
 exact ⟨by congr 1; rw [Bool.eq_iff_iff]; simp [letN] <;> omega, (hH.sb sln).fresh⟩
 refine Go1 9 2 (.bool ((c : Int) == (95 : Int))) <| Dn <| Rt1 rfl rfl ?_
 exact ⟨by congr 1; rw [Bool.eq_iff_iff]; simp [letN] <;> omega, (hH.sb sln).fresh⟩
 refine Go2 7 9 (.bool false) 12 (.bool (decide ((c : Int) ≥ (97 : Int)))) <| Gi 12 rfl (fun hg5 => ?_) (fun hg5 => ?_)
 refine Go1 5 17 (.bool (decide ((c : Int) ≤ (122 : Int)))) <| Gi 17 rfl (fun hg6 => ?_) (fun hg6 => ?_)
 refine Go1 4 2 (.bool true) <| Dn <| Rt1 rfl rfl ?_
 exact ⟨by congr 1; rw [Bool.eq_iff_iff]; simp [letN] <;> omega, (hH.sb sln).fresh⟩
 refine Go1 4 2 (.bool ((c : Int) == (95 : Int))) <| Dn <| Rt1 rfl rfl ?_
 exact ⟨by congr 1; rw [Bool.eq_iff_iff]; simp [letN] <;> omega, (hH.sb sln).fresh⟩
 refine Go1 9 2 (.bool ((c : Int) == (95 : Int))) <| Dn <| Rt1 rfl rfl ?_
 exact ⟨by congr 1; rw [Bool.eq_iff_iff]; simp [letN] <;> omega, (hH.sb sln).fresh⟩
theorem RDigit_ct (c : Nat) (w : World) (hc : c < 256) :
    Fun Tryz.prog 121 [.int .u8 (c : Nat)] w fun v w' => v = .bool (digN c) ∧ Fresh w w' [] := by
 refine fun_of_sw Tryz.func121 rfl 9 rfl rfl ?_
 have hH := Hp.start w
 refine sw_sr <| Go0 1 <| Dn <| sw_sr <| Go1 3 5 (.bool (decide ((c : Int) ≥ (48 : Int)))) <| Gi 5 rfl (fun hg1 => ?_) (fun hg1 => ?_)
 refine Go1 4 2 (.bool (decide ((c : Int) ≤ (57 : Int)))) <| Dn <| Rt1 rfl rfl ?_
 exact ⟨by congr 1; rw [Bool.eq_iff_iff]; simp [digN] <;> omega, (hH.sb sln).fresh⟩
 refine Go1 4 2 (.bool false) <| Dn <| Rt1 rfl rfl ?_
 exact ⟨by congr 1; rw [Bool.eq_iff_iff]; simp [digN] <;> omega, (hH.sb sln).fresh⟩
theorem LexName0_ct (s : List UInt8) (w : World) (hs : s.length ≤ 32) :
    Fun Tryz.prog 92 [.string (bs s)] w fun v w' => v = .int .i64 ((nameN s : Nat) : Int) ∧ Fresh w w' [] := by
 refine fun_of_sw Tryz.func92 rfl 29 rfl rfl ?_
 have hH := Hp.start w
 refine sw_sr <| Go0 1 <| Dn <| sw_seq <| sw_sr <| Gc0 2 5 (.int .i64 (((bs s).size : Nat) : Int)) (Ni s.length) (by rw [bs_size]) <| Go1 1 6 (.int .i64 0) <| Dn <| sw_block <| Lp (γ := Nat) hH (fun i => [(0, .string (bs s)), (5, Ni s.length), (6, Ni i)]) (fun i w_ H_ => (i ≤ s.length) ∧ (∀ j : Nat, j < i → okN s j = true) ∧ H_ []) (fun i => s.length - i) (0) ?_ ?_
 · exact ⟨by omega, fun j hj => absurd hj (by omega), hH⟩
 clear hH
 rintro i w1 ⟨hi, hall, hH⟩
 refine swk [(0, .string (bs s)), (5, Ni s.length), (6, Ni i)] <| sw_sr <| Go1 1 7 (.bool (decide ((i : Int) < ((s.length : Nat) : Int)))) <| Dn <| sw_seq <| If rfl (fun hc1 => ?_) (fun hc1 => ?_)
 refine Sk <| sw_seq <| sw_block <| sw_sr <| Go1 2 3 (Ni i) <| Dn <| sw_sr <| Go2 2 9 (.string (bs s)) 10 (Ni i) <| Gq rfl (rd_sidx (by kernel_rfl) rfl i rfl (by omega)) <| gl_st (Sc rfl rfl (Letter_ct (gb s i) _ (gb_lt _ _)) ?_)
 rintro _ w2 ⟨rfl, hF3⟩
 replace hH := hH.call hF3
 refine Go1 2 14 (.bool (!(letN (gb s i)))) <| Gi 14 rfl (fun hg2 => ?_) (fun hg2 => ?_)
 have hL0 := hg2
 refine Go1 3 17 (.bool ((i : Int) == (0 : Int))) <| Gi 17 rfl (fun hg3 => ?_) (fun hg3 => ?_)
 have hZ0 := hg3
 refine Go1 7 24 (.bool true) <| Dn <| It <| sw_sr <| Go1 2 2 (Ni i) <| Dn <| Rt1 rfl rfl ?_
 exact ⟨by rw [nameN_some (by omega) hall (ok_not hL0 (.inl (by omega)))], (hH.sb sln).fresh⟩
 have hZ1 := hg3
 refine Go2 2 18 (.string (bs s)) 19 (Ni i) <| Gq rfl (rd_sidx (by kernel_rfl) rfl i rfl (by omega)) <| gl_st (Sc rfl rfl (Digit_ct (gb s i) _ (gb_lt _ _)) ?_)
 rintro _ w4 ⟨rfl, hF5⟩
 replace hH := hH.call hF5
 refine Go1 3 24 (.bool (!(digN (gb s i)))) <| Dn <| If rfl (fun hc5 => ?_) (fun hc5 => ?_)
 have hD0 := hc5
 refine sw_sr <| Go1 2 2 (Ni i) <| Dn <| Rt1 rfl rfl ?_
 exact ⟨by rw [nameN_some (by omega) hall (ok_not hL0 (.inr hD0))], (hH.sb sln).fresh⟩
 have hD1 := hc5
 refine sw_skip <| bkN <| sw_next <| sw_region <| Gw0 1 26 ((i : Int) + 1) ((i + 1 : Nat) : Int) <| Go1 1 6 (Ni (i + 1)) <| Dd <| rnd_end (g := (i)) (i + 1) (by kernel_rfl) ?_ ?_
 · exact ⟨by omega, all_next hall (by first | exact ok_let hL1 | exact ok_dig (by omega) hD1), hH⟩
 · show s.length - (i + 1) < s.length - i; omega
 have hL1 := hg2
 refine Go1 10 24 (.bool false) <| Dn <| Iz <| sw_skip <| bkN <| sw_next <| sw_region <| Gw0 1 26 ((i : Int) + 1) ((i + 1 : Nat) : Int) <| Go1 1 6 (Ni (i + 1)) <| Dd <| rnd_end (g := (i)) (i + 1) (by kernel_rfl) ?_ ?_
 · exact ⟨by omega, all_next hall (by first | exact ok_let hL1 | exact ok_dig (by omega) hD1), hH⟩
 · show s.length - (i + 1) < s.length - i; omega
 refine sw_exit <| thX <| thX <| bkH <| sw_next <| sw_sr <| Gc0 2 28 (.int .i64 (((bs s).size : Nat) : Int)) (Ni s.length) (by rw [bs_size]) <| Go1 1 2 (Ni s.length) <| Dn <| Rt1 rfl rfl ?_
 exact ⟨by rw [nameN_none (fun j hj => hall j (by omega))], (hH.sb sln).fresh⟩
theorem Letters_ct (s : List UInt8) (w : World) (hs : s.length ≤ 140737488355328) :
    Fun Tryz.prog 93 [.string (bs s), .int .i64 0] w fun v w' => v = .int .i64 ((nameN s : Nat) : Int) ∧ Fresh w w' [] := by
 refine fun_of_sw Tryz.func93 rfl 39 rfl rfl ?_
 have hH := Hp.start w
 refine sw_sr <| Go0 1 <| Dn <| sw_sr <| Go1 1 5 (.int .i64 0) <| Dn <| sw_seq <| sw_block <| Lp (γ := Nat) hH (fun i => [(0, .string (bs s)), (1, .int .i64 0), (5, Ni i)]) (fun i w_ H_ => (i ≤ s.length) ∧ (∀ j : Nat, j < i → okN s j = true) ∧ H_ []) (fun i => s.length - i) (0) ?_ ?_
 · exact ⟨by omega, fun j hj => absurd hj (by omega), hH⟩
 clear hH
 rintro i w1 ⟨hi, hall, hH⟩
 refine swk [(0, .string (bs s)), (1, .int .i64 0), (5, Ni i)] <| sw_seq <| sw_sr <| Gw0 3 10 (0 + (i : Int)) ((0 + i : Nat) : Int) <| gl_cv 10 (Ni i) (by rw [Nat.zero_add]) rfl <| Gc0 2 12 (.int .i64 (((bs s).size : Nat) : Int)) (Ni s.length) (by rw [bs_size]) <| Go1 1 13 (.bool (decide ((i : Int) < ((s.length : Nat) : Int)))) <| Dn <| If rfl (fun hc1 => ?_) (fun hc1 => ?_)
 refine Sk <| sw_block <| sw_sr <| Gw1 4 17 (0 + (i : Int)) ((0 + i : Nat) : Int) 14 (.string (bs s)) <| gl_cv 17 (Ni i) (by rw [Nat.zero_add]) rfl <| Gq rfl (rd_sidx (by kernel_rfl) rfl i rfl (by omega)) <| gl_st (Sc rfl rfl (RLetter_ct (gb s i) _ (gb_lt _ _)) ?_)
 rintro _ w2 ⟨rfl, hF3⟩
 replace hH := hH.call hF3
 refine Go1 1 6 (.bool (letN (gb s i))) <| Dn <| sw_sr <| Gw1 4 23 (0 + (i : Int)) ((0 + i : Nat) : Int) 20 (.string (bs s)) <| gl_cv 23 (Ni i) (by rw [Nat.zero_add]) rfl <| Gq rfl (rd_sidx (by kernel_rfl) rfl i rfl (by omega)) <| gl_st (Sc rfl rfl (RDigit_ct (gb s i) _ (gb_lt _ _)) ?_)
 rintro _ w4 ⟨rfl, hF5⟩
 replace hH := hH.call hF5
 refine Go1 1 7 (.bool (digN (gb s i))) <| Dn <| sw_seq <| sw_sr <| Go1 3 28 (.bool (!(letN (gb s i)))) <| Gi 28 rfl (fun hg2 => ?_) (fun hg2 => ?_)
 have hL0 := hg2
 refine Go1 3 31 (.bool (!(digN (gb s i)))) <| Gi 31 rfl (fun hg3 => ?_) (fun hg3 => ?_)
 have hD0 := hg3
 refine Go1 4 35 (.bool true) <| Dn <| It <| sw_exit <| thX <| bkX rfl <| thX <| bkH <| sw_next <| sw_sr <| Go1 2 4 (Ni i) <| Dn <| Rt1 rfl rfl ?_
 exact ⟨by rw [nameN_some (by omega) hall (ok_not hL0 (.inr hD0))], (hH.sb sln).fresh⟩
 have hD1 := hg3
 refine Go1 4 35 (.bool ((i : Int) == (0 : Int))) <| Dn <| If rfl (fun hc5 => ?_) (fun hc5 => ?_)
 have hZ0 := hc5
 refine sw_exit <| thX <| bkX rfl <| thX <| bkH <| sw_next <| sw_sr <| Go1 2 4 (Ni i) <| Dn <| Rt1 rfl rfl ?_
 exact ⟨by rw [nameN_some (by omega) hall (ok_not hL0 (.inl (by omega)))], (hH.sb sln).fresh⟩
 have hZ1 := hc5
 refine Sk <| sw_region <| Gw0 2 37 ((i : Int) + 1) ((i + 1 : Nat) : Int) <| Go1 1 5 (Ni (i + 1)) <| Dd <| bkN <| rnd_end (g := (i)) (i + 1) (by kernel_rfl) ?_ ?_
 · exact ⟨by omega, all_next hall (by first | exact ok_let hL1 | exact ok_dig (by omega) hD1), hH⟩
 · show s.length - (i + 1) < s.length - i; omega
 have hL1 := hg2
 refine Go1 7 35 (.bool false) <| Dn <| Iz <| sw_skip <| sw_next <| sw_region <| Gw0 2 37 ((i : Int) + 1) ((i + 1 : Nat) : Int) <| Go1 1 5 (Ni (i + 1)) <| Dd <| bkN <| rnd_end (g := (i)) (i + 1) (by kernel_rfl) ?_ ?_
 · exact ⟨by omega, all_next hall (by first | exact ok_let hL1 | exact ok_dig (by omega) hD1), hH⟩
 · show s.length - (i + 1) < s.length - i; omega
 refine sw_exit <| thX <| thX <| bkH <| sw_next <| sw_sr <| Go1 2 4 (Ni i) <| Dn <| Rt1 rfl rfl ?_
 exact ⟨by rw [show (i : Nat) = nameN s from by rw [nameN_none (fun j hj => hall j (by omega))]; omega], (hH.sb sln).fresh⟩
theorem LexName_ct (s : List UInt8) (w : World) (hs : s.length ≤ 140737488355328) :
    Fun Tryz.prog 58 [.string (bs s)] w fun v w' => v = .bool (nameB s) ∧ Fresh w w' [] := by
 refine fun_of_sw Tryz.func58 rfl 17 rfl rfl ?_
 have hH := Hp.start w
 refine sw_sr <| Go0 1 <| Dn <| sw_sr <| Go1 1 3 (.string (bs s)) <| Gq rfl (rd_sneq (by kernel_rfl) rfl rfl) <| Go1 1 5 (.bool (!(s == []))) <| Gi 5 rfl (fun hg1 => ?_) (fun hg1 => ?_)
 have hne : 1 ≤ s.length := List.length_pos_iff.2 hg1
 refine Gc0 2 7 (.int .i64 (((bs s).size : Nat) : Int)) (Ni s.length) (by rw [bs_size]) <| Go1 3 10 (.bool (decide (((s.length : Nat) : Int) ≤ (32 : Int)))) <| Gi 10 rfl (fun hg2 => ?_) (fun hg2 => ?_)
 refine Go1 1 11 (.string (bs s)) <| gl_st (Sc rfl rfl (LexName0_ct s _ (by omega)) ?_)
 rintro _ w1 ⟨rfl, hF2⟩
 replace hH := hH.call hF2
 refine Gc0 2 14 (.int .i64 (((bs s).size : Nat) : Int)) (Ni s.length) (by rw [bs_size]) <| Go1 3 2 (.bool (((nameN s : Nat) : Int) == ((s.length : Nat) : Int))) <| Dn <| Rt1 rfl rfl ?_
 exact ⟨by congr 1; rw [Bool.eq_iff_iff]; unfold nameB; simp only [decide_eq_true_eq, beq_iff_eq, Bool.false_eq_true, false_iff]; omega, (hH.sb sln).fresh⟩
 refine Go1 7 2 (.bool false) <| Dn <| Rt1 rfl rfl ?_
 exact ⟨by congr 1; rw [Bool.eq_iff_iff]; unfold nameB; simp only [decide_eq_true_eq, beq_iff_eq, Bool.false_eq_true, false_iff]; omega, (hH.sb sln).fresh⟩
 have hne : s.length = 0 := by rw [hg1]; rfl
 refine Go1 12 2 (.bool false) <| Dn <| Rt1 rfl rfl ?_
 exact ⟨by congr 1; rw [Bool.eq_iff_iff]; unfold nameB; simp only [decide_eq_true_eq, beq_iff_eq, Bool.false_eq_true, false_iff]; omega, (hH.sb sln).fresh⟩
theorem RName_ct (s : List UInt8) (w : World) (hs : s.length ≤ 140737488355328) :
    Fun Tryz.prog 59 [.string (bs s)] w fun v w' => v = .bool (nameB s) ∧ Fresh w w' [] := by
 refine fun_of_sw Tryz.func59 rfl 18 rfl rfl ?_
 have hH := Hp.start w
 refine sw_sr <| Go0 1 <| Dn <| sw_sr <| Go1 1 4 (.string (bs s)) <| gl_st (Sc rfl rfl (Letters_ct s _ hs) ?_)
 rintro _ w1 ⟨rfl, hF2⟩
 replace hH := hH.call hF2
 refine Go1 1 3 (Ni (nameN s)) <| Dn <| sw_sr <| Gc1 3 8 (.int .i64 (((bs s).size : Nat) : Int)) (Ni s.length) (by rw [bs_size]) 6 (Ni (nameN s)) <| Go1 2 10 (.bool (((nameN s : Nat) : Int) == ((s.length : Nat) : Int))) <| Gi 10 rfl (fun hg1 => ?_) (fun hg1 => ?_)
 refine Go1 4 14 (.bool (decide (((nameN s : Nat) : Int) ≥ (1 : Int)))) <| Gi 14 rfl (fun hg2 => ?_) (fun hg2 => ?_)
 refine Go1 4 2 (.bool (decide (((nameN s : Nat) : Int) ≤ (32 : Int)))) <| Dn <| Rt1 rfl rfl ?_
 exact ⟨by congr 1; rw [Bool.eq_iff_iff]; unfold nameB; simp only [decide_eq_true_eq, beq_iff_eq, Bool.false_eq_true, false_iff]; omega, (hH.sb sln).fresh⟩
 refine Go1 4 2 (.bool false) <| Dn <| Rt1 rfl rfl ?_
 exact ⟨by congr 1; rw [Bool.eq_iff_iff]; unfold nameB; simp only [decide_eq_true_eq, beq_iff_eq, Bool.false_eq_true, false_iff]; omega, (hH.sb sln).fresh⟩
 refine Go1 8 2 (.bool false) <| Dn <| Rt1 rfl rfl ?_
 exact ⟨by congr 1; rw [Bool.eq_iff_iff]; unfold nameB; simp only [decide_eq_true_eq, beq_iff_eq, Bool.false_eq_true, false_iff]; omega, (hH.sb sln).fresh⟩
end Go.Proofs.YtajapgjemefoiaaGreatDoor
/- Layer 18 (disk): what a disk is, and what is done to it. Plain mathematics. -/
set_option linter.unusedVariables false
namespace Go.Proofs.YtajapgjemefoiaaGreatDoor
open Go.SW Go.RowKit Go.Sort
/-- A file. -/
structure Fil where
  name : List UInt8
  b : List UInt8
  sure : Nat
def getF (F : List Fil) (nm : List UInt8) : Option Fil := F.find? fun f => f.name == nm
def setF (F : List Fil) (f : Fil) : List Fil := F.filter (fun g => decide (g.name < f.name)) ++ f :: F.filter (fun g => decide (f.name < g.name))
def delF (F : List Fil) (nm : List UInt8) : List Fil := F.filter fun g => !(g.name == nm)
def Srt (F : List Fil) : Prop := F.Pairwise fun a b => a.name < b.name
theorem bl_irrefl (a : List UInt8) : ¬ a < a := List.lt_irrefl a
theorem bl_trans {a b c : List UInt8} (h : a < b) (k : b < c) : a < c := List.lt_trans h k
theorem bl_tri (a b : List UInt8) : a < b ∨ a = b ∨ b < a := by
  by_cases h : a < b
  · exact .inl h
  · by_cases h2 : b < a
    · exact .inr (.inr h2)
    · exact .inr (.inl (List.le_antisymm (List.not_lt.1 h2) (List.not_lt.1 h)))
theorem bl_ne {a b : List UInt8} (h : a < b) : a ≠ b := fun e => bl_irrefl b (e ▸ h)
theorem srt_set {F : List Fil} (h : Srt F) (f : Fil) : Srt (setF F f) := by
  unfold setF Srt
  rw [List.pairwise_append]
  refine ⟨h.filter _, List.pairwise_cons.2 ⟨fun g hg => of_decide_eq_true (List.mem_filter.1 hg).2, h.filter _⟩, fun a ha b hb => ?_⟩
  have h1 := of_decide_eq_true (List.mem_filter.1 ha).2
  rcases List.mem_cons.1 hb with rfl | hb
  · exact h1
  · exact bl_trans h1 (of_decide_eq_true (List.mem_filter.1 hb).2)
theorem srt_del {F : List Fil} (h : Srt F) (nm : List UInt8) : Srt (delF F nm) := h.filter _
theorem srt_nodup {F : List Fil} (h : Srt F) : (F.map (·.name)).Nodup := by
  unfold List.Nodup
  rw [List.pairwise_map]
  exact h.imp fun h => bl_ne h
theorem nodup_inj {α β : Type} {f : α → β} {l : List α} (h : (l.map f).Nodup) {a b : α} (ha : a ∈ l) (hb : b ∈ l) (e : f a = f b) : a = b := by
  induction l with
  | nil => simp at ha
  | cons x l ih =>
    rw [List.map_cons, List.nodup_cons] at h
    rcases List.mem_cons.1 ha with ha2 | ha2 <;> rcases List.mem_cons.1 hb with hb2 | hb2
    · rw [ha2, hb2]
    · exact absurd (List.mem_map.2 ⟨b, hb2, by rw [← e, ha2]⟩) h.1
    · exact absurd (List.mem_map.2 ⟨a, ha2, by rw [e, hb2]⟩) h.1
    · exact ih h.2 ha2 hb2
theorem getF_some {F : List Fil} (h : Srt F) {nm : List UInt8} {f : Fil} : getF F nm = some f ↔ f ∈ F ∧ f.name = nm := by
  constructor
  · intro hf
    exact ⟨List.mem_of_find?_eq_some hf, by simpa using List.find?_some hf⟩
  · rintro ⟨h1, rfl⟩
    unfold getF
    cases hf : F.find? (fun g => g.name == f.name) with
    | none => exact absurd (List.find?_eq_none.1 hf f h1) (by simp)
    | some g =>
      have h2 := List.mem_of_find?_eq_some hf
      have h3 : g.name = f.name := by simpa using List.find?_some hf
      rw [nodup_inj (srt_nodup h) h2 h1 h3]
theorem getF_none {F : List Fil} {nm : List UInt8} : getF F nm = none ↔ ∀ f ∈ F, f.name ≠ nm := by
  unfold getF; rw [List.find?_eq_none]; simp
theorem mem_set {F : List Fil} {f g : Fil} : g ∈ setF F f ↔ g = f ∨ g ∈ F ∧ g.name ≠ f.name := by
  unfold setF
  simp only [List.mem_append, List.mem_cons, List.mem_filter, decide_eq_true_eq]
  constructor
  · rintro (⟨h1, h2⟩ | rfl | ⟨h1, h2⟩)
    · exact .inr ⟨h1, bl_ne h2⟩
    · exact .inl rfl
    · exact .inr ⟨h1, (bl_ne h2).symm⟩
  · rintro (rfl | ⟨h1, h2⟩)
    · exact .inr (.inl rfl)
    · rcases bl_tri g.name f.name with h | h | h
      · exact .inl ⟨h1, h⟩
      · exact absurd h h2
      · exact .inr (.inr ⟨h1, h⟩)
theorem mem_del {F : List Fil} {nm : List UInt8} {g : Fil} : g ∈ delF F nm ↔ g ∈ F ∧ g.name ≠ nm := by
  unfold delF; rw [List.mem_filter]; simp
theorem getF_set {F : List Fil} (h : Srt F) (f : Fil) (nm : List UInt8) : getF (setF F f) nm = if f.name = nm then some f else getF F nm := by
  by_cases hn : f.name = nm
  · rw [if_pos hn, getF_some (srt_set h f)]
    exact ⟨mem_set.2 (.inl rfl), hn⟩
  · rw [if_neg hn]
    cases hg : getF F nm with
    | none =>
      rw [getF_none] at hg ⊢
      intro g hgm
      rcases mem_set.1 hgm with rfl | hgm
      · exact hn
      · exact hg g hgm.1
    | some g =>
      rw [getF_some h] at hg
      rw [getF_some (srt_set h f)]
      exact ⟨mem_set.2 (.inr ⟨hg.1, by rw [hg.2]; exact fun e => hn e.symm⟩), hg.2⟩
theorem perm_of_mem {F G : List Fil} (hF : (F.map (·.name)).Nodup) (hG : (G.map (·.name)).Nodup) (h : ∀ f, f ∈ F ↔ f ∈ G) : F.Perm G := by
  have nd : ∀ L : List Fil, (L.map (·.name)).Nodup → L.Nodup := fun L hL => (List.pairwise_map.1 hL).imp fun h e => h (by rw [e])
  exact (List.perm_ext_iff_of_nodup (nd F hF) (nd G hG)).2 h
theorem setF_perm {F : List Fil} (h : Srt F) (f : Fil) : (setF F f).Perm (f :: delF F f.name) := by
  refine perm_of_mem (srt_nodup (srt_set h f)) ?_ (fun g => ?_)
  · rw [List.map_cons, List.nodup_cons]
    refine ⟨fun hm => ?_, srt_nodup (srt_del h _)⟩
    obtain ⟨g, hg, e⟩ := List.mem_map.1 hm
    exact (mem_del.1 hg).2 e
  · rw [mem_set, List.mem_cons, mem_del]
theorem srt_eq {F G : List Fil} (hF : Srt F) (hG : Srt G) (h : F.Perm G) : F = G :=
  List.Perm.eq_of_pairwise (le := fun a b : Fil => a.name < b.name) (fun a b _ _ h1 h2 => absurd (bl_trans h1 h2) (bl_irrefl _)) hF hG h
structure Dsk where
  fs : List Fil
  off : Bool
  ar : Option (Nat × Int)
def mayE (D : Dsk) (nm : List UInt8) (there : Bool) : Nat := if D.off = true then 80 else if nameB nm = false then 1 else if there = true ∧ getF D.fs nm = none then 81 else 0
def cutD (D : Dsk) : Dsk × Bool × Int :=
  match D.ar with
  | none => (D, false, 0)
  | some (a + 1, p) => ({ D with ar := some (a, p) }, false, 0)
  | some (0, p) => ({ D with ar := none, off := true }, true, p)
def modI (n : Int) (by_ : Nat) : Nat := (n % (by_ : Int)).toNat
def oldF (F : List Fil) (nm : List UInt8) : Fil := (getF F nm).getD ⟨nm, [], 0⟩
def doF (F : List Fil) (kind : Nat) (nm p : List UInt8) (n : Nat) : List Fil :=
  match kind with
  | 0 => setF F ⟨nm, (oldF F nm).b ++ p, (oldF F nm).sure⟩
  | 1 => setF F ⟨nm, (oldF F nm).b, (oldF F nm).b.length⟩
  | 2 => setF F ⟨nm, p, p.length⟩
  | 3 => setF F ⟨nm, (oldF F nm).b.take n, min (oldF F nm).sure n⟩
  | _ => delF F nm
def doD (D : Dsk) (kind : Nat) (nm p : List UInt8) (n : Int) : Dsk × Nat :=
  if mayE D nm (decide (kind ≠ 0 ∧ kind ≠ 2)) ≠ 0 then (D, mayE D nm (decide (kind ≠ 0 ∧ kind ≠ 2))) else
  if kind = 3 ∧ (n < 0 ∨ ((oldF D.fs nm).b.length : Int) < n) then (D, 1) else
  ({ (cutD D).1 with fs := if (cutD D).2.1 = false ∨ kind = 0 ∨ modI (cutD D).2.2 2 = 1 then doF D.fs kind nm (if (cutD D).2.1 = true ∧ kind = 0 then p.take (modI (cutD D).2.2 (p.length + 1)) else p) n.toNat else D.fs }, if (cutD D).2.1 = true then 80 else 0)
def startS (f : Fil) (i : Nat) (keep : List Int) : Nat := f.sure + (if i < keep.length then modI (keep.getD i 0) (f.b.length - f.sure + 1) else 0)
def startF1 (f : Fil) (i : Nat) (keep : List Int) : Fil := ⟨f.name, f.b.take (startS f i keep), startS f i keep⟩
def startF (F : List Fil) (keep : List Int) : List Fil := F.mapIdx fun i f => startF1 f i keep
def startD (D : Dsk) (keep : List Int) : Dsk := ⟨startF D.fs keep, false, none⟩
theorem modI_lt (n : Int) {k : Nat} (hk : 0 < k) : modI n k < k := by
  unfold modI
  have h1 := Int.emod_nonneg n (show (k : Int) ≠ 0 by omega)
  have h2 := Int.emod_lt_of_pos n (show (0 : Int) < k by omega)
  omega
/-- What holds of all files: in order, what is sure is there, none too long. -/
structure Good (F : List Fil) (M : Nat) : Prop where
  srt : Srt F
  sure : ∀ f ∈ F, f.sure ≤ f.b.length
  short : ∀ f ∈ F, f.b.length ≤ M
  nm : ∀ f ∈ F, f.name.length ≤ 32
theorem good_set {F : List Fil} {M M' : Nat} (h : Good F M) (hM : M ≤ M') {f : Fil} (h1 : f.sure ≤ f.b.length) (h2 : f.b.length ≤ M') (h3 : f.name.length ≤ 32) : Good (setF F f) M' :=
  ⟨srt_set h.srt f, fun g hg => by
    rcases mem_set.1 hg with rfl | hg
    · exact h1
    · exact h.sure g hg.1, fun g hg => by
    rcases mem_set.1 hg with rfl | hg
    · exact h2
    · exact Nat.le_trans (h.short g hg.1) hM, fun g hg => by
    rcases mem_set.1 hg with rfl | hg
    · exact h3
    · exact h.nm g hg.1⟩
theorem good_del {F : List Fil} {M : Nat} (h : Good F M) (nm : List UInt8) : Good (delF F nm) M :=
  ⟨srt_del h.srt nm, fun g hg => h.sure g (mem_del.1 hg).1, fun g hg => h.short g (mem_del.1 hg).1, fun g hg => h.nm g (mem_del.1 hg).1⟩
theorem Good.mono {F : List Fil} {M M' : Nat} (h : Good F M) (hM : M ≤ M') : Good F M' := ⟨h.srt, h.sure, fun g hg => Nat.le_trans (h.short g hg) hM, h.nm⟩
theorem good_nil (M : Nat) : Good [] M := ⟨List.Pairwise.nil, by simp, by simp, by simp⟩
theorem good_old {F : List Fil} {M : Nat} (h : Good F M) (nm : List UInt8) : (oldF F nm).sure ≤ (oldF F nm).b.length ∧ (oldF F nm).b.length ≤ M ∧ (oldF F nm).name = nm := by
  unfold oldF
  cases hg : getF F nm with
  | none => simp
  | some f =>
    obtain ⟨h1, h2⟩ := (getF_some h.srt).1 hg
    exact ⟨h.sure f h1, h.short f h1, h2⟩
theorem good_doF {F : List Fil} {M : Nat} (h : Good F M) (kind : Nat) (nm p : List UInt8) (n : Nat) (hn : nm.length ≤ 32) : Good (doF F kind nm p n) (M + p.length) := by
  obtain ⟨h1, h2, h3⟩ := good_old h nm
  unfold doF
  split
  · exact good_set h (by omega) (by simp only [List.length_append]; omega) (by simp only [List.length_append]; omega) hn
  · exact good_set h (by omega) (Nat.le_refl _) (by simp only; omega) hn
  · exact good_set h (by omega) (Nat.le_refl _) (by simp only; omega) hn
  · exact good_set h (by omega) (by simp only [List.length_take]; omega) (by simp only [List.length_take]; omega) hn
  · exact (good_del h nm).mono (by omega)
theorem name_short {l : List UInt8} (h : nameB l = true) : l.length ≤ 32 := by
  unfold nameB at h
  simp only [decide_eq_true_eq] at h
  omega
theorem may_short {D : Dsk} {nm : List UInt8} {b : Bool} (h : mayE D nm b = 0) : nm.length ≤ 32 := by
  refine name_short ?_
  unfold mayE at h
  split at h
  · omega
  split at h
  · omega
  rename_i h2
  simpa using h2
theorem good_doD {D : Dsk} {M : Nat} (h : Good D.fs M) (kind : Nat) (nm p : List UInt8) (n : Int) : Good (doD D kind nm p n).1.fs (M + p.length) := by
  unfold doD
  split
  · exact h.mono (by omega)
  rename_i hm
  have hn := may_short (Decidable.not_not.1 hm)
  split
  · exact h.mono (by omega)
  simp only
  split
  · split
    · exact (good_doF h kind nm _ _ hn).mono (by rw [List.length_take]; omega)
    · exact good_doF h kind nm _ _ hn
  · exact h.mono (by omega)
structure PE where
  name : List UInt8
  fb : Nat
  v : Value
  b : List UInt8
  sure : Nat
def PE.fil (e : PE) : Fil := ⟨e.name, e.b, e.sure⟩
def kvE (es : List PE) : SEs := es.map fun e => (e.name, Value.pointer (some ⟨e.fb, 0, none⟩))
def ixE (es : List PE) (nm : List UInt8) : Nat := es.findIdx fun e => e.name == nm
structure Rep (es : List PE) (F : List Fil) : Prop where
  srt : Srt F
  perm : (es.map PE.fil).Perm F
theorem Rep.nodup {es : List PE} {F : List Fil} (h : Rep es F) : (es.map (·.name)).Nodup := by
  have h1 := (h.perm.map (·.name)).nodup_iff.2 (srt_nodup h.srt)
  rwa [List.map_map] at h1
theorem kfind_kvE (nm : List UInt8) : ∀ (es : List PE) (i : Nat), kfind nm (kvE es) i = (es[ixE es nm]?).map fun e => (i + ixE es nm, Value.pointer (some ⟨e.fb, 0, none⟩))
  | [], i => rfl
  | e :: es, i => by
    unfold kvE ixE
    rw [List.map_cons, List.findIdx_cons]
    unfold kfind
    by_cases h : e.name = nm
    · rw [if_pos h]; simp [h]
    · rw [if_neg h]
      have := kfind_kvE nm es (i + 1)
      unfold kvE ixE at this
      rw [this, show (e.name == nm) = false from by simpa using h]
      simp only [cond_false, List.getElem?_cons_succ]
      cases es[es.findIdx fun e => e.name == nm]? with
      | none => rfl
      | some e => simp only [Option.map_some]; congr 2; omega
theorem ix_at {es : List PE} {nm : List UInt8} (h : ixE es nm < es.length) : ∃ e, es[ixE es nm]? = some e ∧ e.name = nm := by
  refine ⟨es[ixE es nm], List.getElem?_eq_getElem h, ?_⟩
  have h2 : (es[ixE es nm].name == nm) = true := List.findIdx_getElem (xs := es) (p := fun e : PE => e.name == nm) (w := h)
  exact eq_of_beq h2
theorem ix_none {es : List PE} {nm : List UInt8} (h : ¬ ixE es nm < es.length) : ∀ e ∈ es, e.name ≠ nm := by
  have h1 : es.findIdx (fun e => e.name == nm) = es.length := Nat.le_antisymm List.findIdx_le_length (by unfold ixE at h; omega)
  have := List.findIdx_eq_length.1 h1
  intro e he
  simpa using this e he
theorem ix_of {es : List PE} {F : List Fil} (h : Rep es F) {i : Nat} {e : PE} (he : es[i]? = some e) : ixE es e.name = i := by
  have hi : i < es.length := (List.getElem?_eq_some_iff.1 he).1
  have hlt : ixE es e.name < es.length := by
    refine Classical.byContradiction fun hn => ?_
    exact ix_none hn e (List.mem_of_getElem? he) rfl
  obtain ⟨e2, h2, h3⟩ := ix_at hlt
  have hn := h.nodup
  have h4 : (es.map (·.name))[ixE es e.name]? = (es.map (·.name))[i]? := by rw [List.getElem?_map, List.getElem?_map, h2, he]; simp [h3]
  exact (List.getElem?_inj (by simpa using hlt) hn).1 h4
theorem rep_get {es : List PE} {F : List Fil} (h : Rep es F) (nm : List UInt8) : (es[ixE es nm]?).map PE.fil = getF F nm := by
  by_cases hlt : ixE es nm < es.length
  · obtain ⟨e, h2, h3⟩ := ix_at hlt
    rw [h2]
    refine Eq.symm ((getF_some h.srt).2 ⟨h.perm.mem_iff.1 (List.mem_map.2 ⟨e, List.mem_of_getElem? h2, rfl⟩), h3⟩)
  · rw [List.getElem?_eq_none (by omega)]
    refine Eq.symm (getF_none.2 fun f hf => ?_)
    obtain ⟨e, he, rfl⟩ := List.mem_map.1 (h.perm.mem_iff.2 hf)
    exact ix_none hlt e he
theorem kvE_set {es : List PE} {i : Nat} {e e' : PE} (he : es[i]? = some e) (hn : e'.name = e.name) (hb : e'.fb = e.fb) : kvE (es.set i e') = kvE es := by
  unfold kvE
  rw [List.map_set, hn, hb]
  apply List.ext_getElem?
  intro j
  rw [List.getElem?_set]
  split
  · rename_i h; subst h
    have hi : i < es.length := (List.getElem?_eq_some_iff.1 he).1
    rw [if_pos (by simpa using hi), List.getElem?_map, he]; rfl
  · rfl
def putE (es : List PE) (e : PE) : List PE := if ixE es e.name < es.length then es.set (ixE es e.name) e else es ++ [e]
theorem kput_kvE (es : List PE) (e : PE) : kput (kvE es) e.name (.pointer (some ⟨e.fb, 0, none⟩)) = kvE (putE es e) := by
  unfold kput putE
  rw [kfind_kvE]
  by_cases h : ixE es e.name < es.length
  · rw [if_pos h, List.getElem?_eq_getElem h]
    simp only [Option.map_some, Nat.zero_add]
    simp [kvE, List.map_set]
  · rw [if_neg h, List.getElem?_eq_none (by omega)]
    simp [kvE]
theorem kdel_kvE (es : List PE) (nm : List UInt8) : kdel (kvE es) nm = kvE (es.eraseIdx (ixE es nm)) := by
  unfold kdel
  rw [kfind_kvE]
  by_cases h : ixE es nm < es.length
  · rw [List.getElem?_eq_getElem h]
    simp only [Option.map_some, Nat.zero_add, kvE]
    rw [map_eraseIdx]
  · rw [List.getElem?_eq_none (by omega), List.eraseIdx_of_length_le (by omega)]
    rfl
theorem rep_del {es : List PE} {F : List Fil} (h : Rep es F) (nm : List UInt8) : Rep (es.eraseIdx (ixE es nm)) (delF F nm) := by
  refine ⟨srt_del h.srt nm, ?_⟩
  have hn := h.nodup
  have hsub : ((es.eraseIdx (ixE es nm)).map PE.fil).Sublist (es.map PE.fil) := (List.eraseIdx_sublist _ _).map _
  refine perm_of_mem ?_ (srt_nodup (srt_del h.srt nm)) (fun f => ?_)
  · rw [List.map_map]
    exact hn.sublist ((List.eraseIdx_sublist _ _).map _)
  · rw [mem_del, ← h.perm.mem_iff]
    by_cases hlt : ixE es nm < es.length
    · obtain ⟨e, h2, h3⟩ := ix_at hlt
      have hp : es.Perm (e :: es.eraseIdx (ixE es nm)) := (perm_erase es _ e h2).symm
      have hn2 := ((hp.map (·.name)).nodup_iff.1 hn)
      rw [List.map_cons, List.nodup_cons] at hn2
      rw [(hp.map PE.fil).mem_iff, List.map_cons, List.mem_cons]
      constructor
      · intro hm
        refine ⟨.inr hm, fun e4 => hn2.1 ?_⟩
        obtain ⟨e5, h5, rfl⟩ := List.mem_map.1 hm
        exact List.mem_map.2 ⟨e5, h5, e4.trans h3.symm⟩
      · rintro ⟨rfl | hm, h6⟩
        · exact absurd h3 h6
        · exact hm
    · rw [List.eraseIdx_of_length_le (by omega)]
      exact ⟨fun hm => ⟨hm, by
        obtain ⟨e, he, rfl⟩ := List.mem_map.1 hm
        exact ix_none hlt e he⟩, fun hm => hm.1⟩
theorem rep_put {es : List PE} {F : List Fil} (h : Rep es F) (e : PE) : Rep (putE es e) (setF F e.fil) := by
  refine ⟨srt_set h.srt _, ?_⟩
  refine List.Perm.trans ?_ (setF_perm h.srt e.fil).symm
  have hd : ((es.eraseIdx (ixE es e.name)).map PE.fil).Perm (delF F e.name) := (rep_del h e.name).perm
  refine List.Perm.trans ?_ (hd.cons e.fil)
  unfold putE
  by_cases hlt : ixE es e.name < es.length
  · rw [if_pos hlt]
    have := perm_erase (es.set (ixE es e.name) e) (ixE es e.name) e (by simp [hlt])
    rw [List.eraseIdx_set_eq] at this
    exact (this.symm.map PE.fil)
  · rw [if_neg hlt, List.eraseIdx_of_length_le (by omega), List.map_append]
    exact List.perm_append_comm
theorem rep_set {es : List PE} {F : List Fil} (h : Rep es F) {i : Nat} {e : PE} (he : es[i]? = some e) (e' : PE) (hn : e'.name = e.name) : Rep (es.set i e') (setF F e'.fil) := by
  have hi : i < es.length := (List.getElem?_eq_some_iff.1 he).1
  have := rep_put h e'
  unfold putE at this
  rw [hn, ix_of h he, if_pos hi] at this
  exact this
theorem rep_keys {es : List PE} {F : List Fil} (h : Rep es F) {ss : List (List UInt8)} (hs : ss.Perm (es.map (·.name))) : ss.mergeSort (fun x y => decide (x ≤ y)) = F.map (·.name) := by
  have h1 : ss.Perm (F.map (·.name)) := hs.trans (by have := h.perm.map (·.name); rwa [List.map_map] at this)
  have h2 := mergeSort_of_perm h1
  unfold leB at h2
  rw [h2]
  refine List.mergeSort_of_pairwise ?_
  rw [List.pairwise_map]
  exact h.srt.imp fun h => by simpa using List.le_of_lt h
end Go.Proofs.YtajapgjemefoiaaGreatDoor
/- Layer 18 (disk), the program's: its parts: modulo, at, cut, act; what they answer. -/
set_option maxRecDepth 100000
set_option maxHeartbeats 2000000
set_option linter.unusedVariables false
set_option linter.unusedSimpArgs false
namespace Go.Proofs.YtajapgjemefoiaaGreatDoor
open Go.RowKit Go.SW
def filO (e : PE) : List Own := [.blk e.fb 80 [e.v, .int .i64 ((e.sure : Nat) : Int)], .vw e.v 5 e.b]
def arV (ar : Option (Nat × Int)) (ab : Nat) : Value := if ar.isSome then .pointer (some ⟨ab, 0, none⟩) else .pointer none
def armO (ar : Option (Nat × Int)) (ab : Nat) : List Own :=
  match ar with
  | none => []
  | some (a, p) => [.blk ab 124 [.int .i64 ((a : Nat) : Int), .int .i64 p]]
def hdO (db mb ab : Nat) (off : Bool) (ar : Option (Nat × Int)) : Own := .blk db 70 [.map (some mb), .bool off, arV ar ab]
def filsO (es : List PE) : Own := .grp (es.map fun e => .grp (filO e))
def dskO (db mb ab : Nat) (D : Dsk) (es : List PE) : List Own := [hdO db mb ab D.off D.ar, .smap mb (kvE es), filsO es, .grp (armO D.ar ab)]
def ArOk (ar : Option (Nat × Int)) : Prop := ∀ a p, ar = some (a, p) → a ≤ 9223372036854775807
theorem arOk_cut {D : Dsk} (h : ArOk D.ar) : ArOk (cutD D).1.ar := by
  obtain ⟨fs, off, ar⟩ := D
  intro a p e
  match ar, h with
  | none, _ => cases e
  | some (0, q), _ => cases e
  | some (b + 1, q), h =>
    have := h (b + 1) q rfl
    cases e
    omega
def fV (es : List PE) (nm : List UInt8) : Value := match es[ixE es nm]? with | some e => .pointer (some ⟨e.fb, 0, none⟩) | none => .pointer none
theorem fV_get (es : List PE) (nm : List UInt8) : (kget (kvE es) nm).getD (.pointer none) = fV es nm := by
  unfold kget fV
  rw [kfind_kvE]
  cases es[ixE es nm]? <;> rfl
theorem fV_nil (es : List PE) (nm : List UInt8) : PNil (fV es nm) (decide (¬ ixE es nm < es.length)) := by
  unfold fV
  by_cases h : ixE es nm < es.length
  · rw [List.getElem?_eq_getElem h]; exact .inr ⟨_, rfl, by simpa using h⟩
  · rw [List.getElem?_eq_none (by omega)]; exact .inl ⟨rfl, by simpa using h⟩
def mayQ (off : Bool) (es : List PE) (nm : List UInt8) : Nat := if off = true then 80 else if nameB nm = false then 1 else if ixE es nm < es.length then 0 else 81
def atV (off : Bool) (es : List PE) (nm : List UInt8) : Value := if mayQ off es nm = 0 then fV es nm else .pointer none
theorem atV_one (pw : Bool) (es : List PE) (nm : List UInt8) : (atV pw es nm).oneCell' = true := by
  unfold atV fV
  split
  · split <;> rfl
  · rfl
theorem mayP_eq {D : Dsk} {es : List PE} (h : Rep es D.fs) (nm : List UInt8) : mayE D nm true = mayQ D.off es nm := by
  unfold mayE mayQ
  have := rep_get h nm
  by_cases hlt : ixE es nm < es.length
  · rw [List.getElem?_eq_getElem hlt] at this
    rw [← this, if_pos hlt]; simp
  · rw [List.getElem?_eq_none (by omega)] at this
    rw [← this, if_neg hlt]; simp
theorem mayE_ff {D : Dsk} {es : List PE} (h : Rep es D.fs) (nm : List UInt8) : mayE D nm false = if mayQ D.off es nm = 81 then 0 else mayQ D.off es nm := by
  rw [← mayP_eq h]
  unfold mayE
  by_cases h1 : D.off = true
  · simp [h1]
  · by_cases h2 : nameB nm = false
    · simp [h1, h2]
    · by_cases h3 : getF D.fs nm = none <;> simp [h1, h2, h3]
theorem tmod_modI (n : Int) (k : Nat) (hk : 0 < k) : (n.tmod (k : Int) + (k : Int)).tmod (k : Int) = ((modI n k : Nat) : Int) := by
  unfold modI
  have h1 : 0 ≤ n % (k : Int) := Int.emod_nonneg n (by omega)
  rw [Int.toNat_of_nonneg h1]
  have h2 : -(k : Int) < n.tmod k ∧ n.tmod k < k := by
    have a := Int.tmod_lt_of_pos n (show (0 : Int) < k by omega)
    have b := Int.lt_tmod_of_pos n (show (0 : Int) < k by omega)
    omega
  rw [Int.tmod_eq_emod_of_nonneg (by omega), Int.add_emod_right, Int.tmod_def]
  rw [show n - ↑k * n.tdiv ↑k = n + ↑k * (-(n.tdiv ↑k)) by rw [Int.mul_neg]; omega, Int.add_mul_emod_self_left]
theorem tmod2 (n : Int) : (n.tmod 2 != 0) = decide (modI n 2 = 1) := by
  unfold modI
  rw [Bool.eq_iff_iff, bne_iff_ne, decide_eq_true_eq]
  have h1 := Int.emod_add_mul_ediv n 2
  have h2 := Int.tmod_add_mul_tdiv n 2
  have h3 : -2 < n.tmod 2 ∧ n.tmod 2 < 2 := ⟨Int.lt_tmod_of_pos n (by omega), Int.tmod_lt_of_pos n (by omega)⟩
  have h4 : 0 ≤ n % 2 ∧ n % 2 < 2 := ⟨Int.emod_nonneg n (by omega), Int.emod_lt_of_pos n (by omega)⟩
  simp only [Int.cast_ofNat_Int] at *
  constructor <;> intro h <;> omega

theorem Modulo_ct (n : Int) (k : Nat) (w : World) (hk : 0 < k) (hk2 : k ≤ 2305843009213693951) :
    Fun Tryz.prog 28 [.int .i64 n, .int .i64 ((k : Nat) : Int)] w fun v w' => v = .int .i64 ((modI n k : Nat) : Int) ∧ Fresh w w' [] := by
 have h1 := Int.tmod_lt_of_pos n (show (0 : Int) < k by omega)
 have h2 := Int.lt_tmod_of_pos n (show (0 : Int) < k by omega)
 refine fun_of_sw Tryz.func28 rfl 12 rfl rfl ?_
 have hH := Hp.start w
 refine sw_sr <| Go0 1 <| Dn <| sw_sr <| Go2 2 5 (.int .i64 n) 6 (Ni k) <| Gq rfl (rd_remI (a := n) (b := k) rfl rfl hk) <| Gw0 2 9 ((Int.tmod n ((k : Nat) : Int)) + (k : Int)) ((Int.tmod n ((k : Nat) : Int)) + (k : Int)) <| Go1 1 10 (Ni k) <| Gq rfl (rd_remI (a := (Int.tmod n ((k : Nat) : Int) + ((k : Nat) : Int))) (b := k) rfl rfl hk) <| gl_cv 11 (Ni (modI n k)) (by rw [tmod_modI n k hk]) rfl <| Go1 1 4 (Ni (modI n k)) <| Dn <| Rt1 rfl rfl ?_
 exact ⟨rfl, hH.fresh⟩
theorem Cut0_ct (db ab : Nat) (M : Value) (fs : List Fil) (pw : Bool) (w : World) (hM : Mine w [.blk db 70 [M, .bool pw, arV none ab], .grp (armO none ab)]) :
    Fun Tryz.prog 27 [.pointer (some ⟨db, 0, none⟩)] w fun v w' => v = .tuple #[.int .i64 (cutD (⟨fs, pw, none⟩ : Dsk)).2.2, .bool (cutD (⟨fs, pw, none⟩ : Dsk)).2.1] ∧ Turn w w' [.blk db 70 [M, .bool pw, arV none ab], .grp (armO none ab)] [.blk db 70 [M, .bool (cutD (⟨fs, pw, none⟩ : Dsk)).1.off, arV ((cutD (⟨fs, pw, none⟩ : Dsk)).1.ar) ab], .grp (armO ((cutD (⟨fs, pw, none⟩ : Dsk)).1.ar) ab)] := by
 refine fun_of_sw Tryz.func27 rfl 42 rfl rfl ?_
 have hH : Hp w w (off w (blksOf [.blk db 70 [M, .bool pw, arV none ab], .grp (armO none ab)])) (blksOf [.blk db 70 [M, .bool pw, arV none ab], .grp (armO none ab)]) ([.blk db 70 [M, .bool pw, arV none ab]] ++ armO none ab) := ((Hp.start_mine hM).pick [1, 0] (by kernel_rfl) rfl).open_.perm List.perm_append_comm
 replace hH : Hp w w _ _ [.blk db 70 [M, .bool pw, .pointer none]] := hH
 refine sw_sr <| Go0 2 <| Dn <| sw_seq <| sw_sr <| Go1 3 7 (Pp db 2) <| Gq rfl (Lk 0 hH rfl rfl rfl) <| Go1 1 9 (.bool true) <| Dn <| It <| sw_sr <| Go2 2 2 (.int .i64 0) 3 (.bool false) <| Dn <| Rt2 rfl rfl rfl ?_
 have h1 : Hp w w _ _ ([.blk db 70 [M, .bool pw, .pointer none]] ++ armO none ab) := hH
 have h2 := h1.perm List.perm_append_comm
 exact ⟨rfl, (h2.close.pick [1, 0] (by kernel_rfl) rfl).turned⟩
theorem Cut1_ct (db ab : Nat) (M : Value) (fs : List Fil) (pw : Bool) (p : Int) (w : World) (hM : Mine w [.blk db 70 [M, .bool pw, arV (some (0, p)) ab], .grp (armO (some (0, p)) ab)]) :
    Fun Tryz.prog 27 [.pointer (some ⟨db, 0, none⟩)] w fun v w' => v = .tuple #[.int .i64 (cutD (⟨fs, pw, some (0, p)⟩ : Dsk)).2.2, .bool (cutD (⟨fs, pw, some (0, p)⟩ : Dsk)).2.1] ∧ Turn w w' [.blk db 70 [M, .bool pw, arV (some (0, p)) ab], .grp (armO (some (0, p)) ab)] [.blk db 70 [M, .bool (cutD (⟨fs, pw, some (0, p)⟩ : Dsk)).1.off, arV ((cutD (⟨fs, pw, some (0, p)⟩ : Dsk)).1.ar) ab], .grp (armO ((cutD (⟨fs, pw, some (0, p)⟩ : Dsk)).1.ar) ab)] := by
 refine fun_of_sw Tryz.func27 rfl 42 rfl rfl ?_
 have hH : Hp w w (off w (blksOf [.blk db 70 [M, .bool pw, arV (some (0, p)) ab], .grp (armO (some (0, p)) ab)])) (blksOf [.blk db 70 [M, .bool pw, arV (some (0, p)) ab], .grp (armO (some (0, p)) ab)]) ([.blk db 70 [M, .bool pw, arV (some (0, p)) ab]] ++ armO (some (0, p)) ab) := ((Hp.start_mine hM).pick [1, 0] (by kernel_rfl) rfl).open_.perm List.perm_append_comm
 replace hH : Hp w w _ _ [.blk db 70 [M, .bool pw, Pp ab 0], .blk ab 124 [.int .i64 0, .int .i64 p]] := hH
 refine sw_sr <| Go0 2 <| Dn <| sw_seq <| sw_sr <| Go1 3 7 (Pp db 2) <| Gq rfl (Lk 0 hH rfl rfl rfl) <| Go1 1 9 (.bool false) <| Dn <| Iz <| sw_skip <| sw_next <| sw_seq <| sw_sr <| Go1 3 12 (Pp db 2) <| Gq rfl (Lk 0 hH rfl rfl rfl) <| Go1 2 15 (Pp ab 0) <| Gq rfl (Lk 1 hH rfl rfl rfl) <| Go1 1 17 (.bool false) <| Dn <| Iz <| sw_skip <| sw_next <| sw_sr <| Go1 3 30 (Pp db 2) <| Gq rfl (Lk 0 hH rfl rfl rfl) <| Go1 2 33 (Pp ab 1) <| Gq rfl (Lk 1 hH rfl rfl rfl) <| Go1 1 4 (.int .i64 p) <| Dn <| sw_sr <| Go2 4 36 (Pp db 0) 38 (Pp db 2) <| gl_st (Ks 0 (.pointer none) rfl hH rfl rfl ?_)
 clear hH; intro w1 hH
 refine Go1 2 40 (Pp db 1) <| gl_st (Ks 0 (.bool true) rfl hH rfl rfl ?_)
 clear hH; intro w2 hH
 refine Dn <| sw_sr <| Go2 3 2 (.int .i64 p) 3 (.bool true) <| Dn <| Rt2 rfl rfl rfl ?_
 replace hH := (hH.sb (slk sln)).n1
 have h1 : Hp w w2 _ _ ([.blk db 70 [M, .bool true, .pointer none]] ++ armO none ab) := hH
 have h2 := h1.perm List.perm_append_comm
 exact ⟨rfl, (h2.close.pick [1, 0] (by kernel_rfl) rfl).turned⟩
theorem Cut2_ct (db ab : Nat) (M : Value) (fs : List Fil) (pw : Bool) (a : Nat) (p : Int) (w : World) (hM : Mine w [.blk db 70 [M, .bool pw, arV (some (a + 1, p)) ab], .grp (armO (some (a + 1, p)) ab)]) (ha : a + 1 ≤ 9223372036854775807) :
    Fun Tryz.prog 27 [.pointer (some ⟨db, 0, none⟩)] w fun v w' => v = .tuple #[.int .i64 (cutD (⟨fs, pw, some (a + 1, p)⟩ : Dsk)).2.2, .bool (cutD (⟨fs, pw, some (a + 1, p)⟩ : Dsk)).2.1] ∧ Turn w w' [.blk db 70 [M, .bool pw, arV (some (a + 1, p)) ab], .grp (armO (some (a + 1, p)) ab)] [.blk db 70 [M, .bool (cutD (⟨fs, pw, some (a + 1, p)⟩ : Dsk)).1.off, arV ((cutD (⟨fs, pw, some (a + 1, p)⟩ : Dsk)).1.ar) ab], .grp (armO ((cutD (⟨fs, pw, some (a + 1, p)⟩ : Dsk)).1.ar) ab)] := by
 refine fun_of_sw Tryz.func27 rfl 42 rfl rfl ?_
 have hH : Hp w w (off w (blksOf [.blk db 70 [M, .bool pw, arV (some (a + 1, p)) ab], .grp (armO (some (a + 1, p)) ab)])) (blksOf [.blk db 70 [M, .bool pw, arV (some (a + 1, p)) ab], .grp (armO (some (a + 1, p)) ab)]) ([.blk db 70 [M, .bool pw, arV (some (a + 1, p)) ab]] ++ armO (some (a + 1, p)) ab) := ((Hp.start_mine hM).pick [1, 0] (by kernel_rfl) rfl).open_.perm List.perm_append_comm
 replace hH : Hp w w _ _ [.blk db 70 [M, .bool pw, Pp ab 0], .blk ab 124 [Ni (a + 1), .int .i64 p]] := hH
 refine sw_sr <| Go0 2 <| Dn <| sw_seq <| sw_sr <| Go1 3 7 (Pp db 2) <| Gq rfl (Lk 0 hH rfl rfl rfl) <| Go1 1 9 (.bool false) <| Dn <| Iz <| sw_skip <| sw_next <| sw_seq <| sw_sr <| Go1 3 12 (Pp db 2) <| Gq rfl (Lk 0 hH rfl rfl rfl) <| Go1 2 15 (Pp ab 0) <| Gq rfl (Lk 1 hH rfl rfl rfl) <| Go1 1 17 (.bool (decide (((a + 1 : Nat) : Int) > (0 : Int)))) <| Dn <| If rfl (fun hc2 => ?_) (fun hc2 => absurd hc2 (by omega))
 clear hc2
 refine sw_sr <| Go1 3 20 (Pp db 2) <| Gq rfl (Lk 0 hH rfl rfl rfl) <| Go1 2 23 (Pp ab 0) <| Gq rfl (Lk 1 hH rfl rfl rfl) <| Gw0 1 25 (((a + 1 : Nat) : Int) - 1) (a : Int) <| Go1 2 27 (Pp ab 0) <| gl_st (Ks 1 (Ni a) rfl hH rfl rfl ?_)
 clear hH; intro w1 hH
 refine Dn <| sw_sr <| Go2 2 2 (.int .i64 0) 3 (.bool false) <| Dn <| Rt2 rfl rfl rfl ?_
 have h1 : Hp w w1 _ _ ([.blk db 70 [M, .bool pw, Pp ab 0]] ++ armO (some (a, p)) ab) := hH
 have h2 := h1.perm List.perm_append_comm
 exact ⟨rfl, (h2.close.pick [1, 0] (by kernel_rfl) rfl).turned⟩
theorem Cut_ct (db ab : Nat) (M : Value) (D D2 : Dsk) (cu : Bool) (pt : Int) (w : World) (hc : cutD D = (D2, cu, pt)) (hA : ArOk D.ar) (hM : Mine w [.blk db 70 [M, .bool D.off, arV D.ar ab], .grp (armO D.ar ab)]) :
    Fun Tryz.prog 27 [.pointer (some ⟨db, 0, none⟩)] w fun v w' => v = .tuple #[.int .i64 pt, .bool cu] ∧
      Turn w w' [.blk db 70 [M, .bool D.off, arV D.ar ab], .grp (armO D.ar ab)] [.blk db 70 [M, .bool D2.off, arV D2.ar ab], .grp (armO D2.ar ab)] := by
  have h1 : cutD D = (D2, cu, pt) := hc
  have e1 : D2 = (cutD D).1 := by rw [h1]
  have e2 : cu = (cutD D).2.1 := by rw [h1]
  have e3 : pt = (cutD D).2.2 := by rw [h1]
  subst e1 e2 e3
  obtain ⟨fs, pw, ar⟩ := D
  match ar, hA, hM with
  | none, _, hM => exact Cut0_ct db ab M fs pw w hM
  | some (0, p), _, hM => exact Cut1_ct db ab M fs pw p w hM
  | some (a + 1, p), hA, hM => exact Cut2_ct db ab M fs pw a p w hM (hA _ _ rfl)

theorem At_ct (db mb : Nat) (av : Value) (pw : Bool) (es : List PE) (nm : List UInt8) (w : World) (hs : nm.length ≤ 140737488355328) (hM : Mine w [.blk db 70 [.map (some mb), .bool pw, av], .smap mb (kvE es)]) :
    Fun Tryz.prog 26 [.pointer (some ⟨db, 0, none⟩), .string (bs nm)] w fun v w' => v = .tuple #[atV pw es nm, errV (mayQ pw es nm)] ∧ Turn w w' [.blk db 70 [.map (some mb), .bool pw, av], .smap mb (kvE es)] [.blk db 70 [.map (some mb), .bool pw, av], .smap mb (kvE es)] := by
 refine fun_of_sw Tryz.func26 rfl 32 rfl rfl ?_
 have hH := Hp.start_mine hM
 refine sw_sr <| Go0 2 <| Dn <| sw_seq <| sw_block <| sw_sr <| Go1 3 9 (Pp db 1) <| Gq rfl (Lk 0 hH rfl rfl rfl) <| Go1 1 6 (.bool pw) <| Dn <| If rfl (fun hc1 => ?_) (fun hc1 => ?_)
 refine sw_sr <| Go2 3 4 (.pointer none) 5 (.iface 38 (.int .i64 80)) <| Dn <| Rt2 rfl rfl rfl ?_
 have hm : mayQ pw es nm = 80 := by unfold mayQ; rw [if_pos hc1]
 exact ⟨by unfold atV; rw [hm]; rfl, hH.turned⟩
 refine sw_sr <| Go1 1 13 (.string (bs nm)) <| gl_st (Sc rfl rfl (LexName_ct nm _ hs) ?_)
 rintro _ w1 ⟨rfl, hF2⟩
 replace hH := hH.call hF2
 refine Go1 2 12 (.bool (!(nameB nm))) <| Dn <| If rfl (fun hc2 => ?_) (fun hc2 => ?_)
 have hbad := hc2
 refine sw_sr <| Go2 3 4 (.pointer none) 5 (.iface 38 (.int .i64 1)) <| Dn <| Rt2 rfl rfl rfl ?_
 have hb : nameB nm = false := by simpa using hbad
 have hm : mayQ pw es nm = 1 := by unfold mayQ; rw [if_neg (by rw [hc1]; simp), if_pos hb]
 exact ⟨by unfold atV; rw [hm]; rfl, hH.turned⟩
 have hgood := hc2
 refine sw_sr <| Go1 3 20 (Pp db 0) <| Gq rfl (Lk 0 hH rfl rfl rfl) <| Go1 1 22 (.string (bs nm)) <| Gq rfl (rd_smget (kt := 9) (e := 73) (zv := .pointer none) 1 (by kernel_rfl) (by kernel_rfl) (by kernel_rfl) hH rfl rfl nm rfl) <| gl_cv 23 (fV es nm) (fV_get es nm) rfl <| Gq rfl (rd_pnil_eql (by kernel_rfl) rfl rfl (fV_nil es nm)) <| Go1 1 17 (.bool (decide (¬ ixE es nm < es.length))) <| Dn <| sw_cond rfl rfl (fun hc3 => ?_) (fun hc3 => ?_)
 replace hc3 := of_decide_eq_true hc3
 refine sw_sr <| Go2 3 4 (.pointer none) 5 (.iface 38 (.int .i64 81)) <| Dn <| Rt2 rfl rfl rfl ?_
 have hb : ¬ nameB nm = false := by simpa using hgood
 have hm : mayQ pw es nm = 81 := by unfold mayQ; rw [if_neg (by rw [hc1]; simp), if_neg hb, if_neg hc3]
 exact ⟨by unfold atV; rw [hm]; rfl, hH.turned⟩
 replace hc3 := Decidable.not_not.1 (of_decide_eq_false hc3)
 refine sw_skip <| bkN <| sw_next <| sw_sr <| Go1 3 28 (Pp db 0) <| Gq rfl (Lk 0 hH rfl rfl rfl) <| Go1 1 30 (.string (bs nm)) <| Gq rfl (rd_smget (kt := 9) (e := 73) (zv := .pointer none) 1 (by kernel_rfl) (by kernel_rfl) (by kernel_rfl) hH rfl rfl nm rfl) <| gl_cv 31 (fV es nm) (fV_get es nm) rfl <| Go2 2 4 (fV es nm) 5 (.nilIface) <| Dn <| Rt2 rfl rfl rfl ?_
 have hb : ¬ nameB nm = false := by simpa using hgood
 have hm : mayQ pw es nm = 0 := by unfold mayQ; rw [if_neg (by rw [hc1]; simp), if_neg hb, if_pos hc3]
 exact ⟨by unfold atV; rw [hm]; rfl, hH.turned⟩
theorem SClone_ct (vb : Value) (b : List UInt8) (w : World) (hb : RB w.cell? vb b) (hl : b.length ≤ 140737488355328) :
    Fun Tryz.prog 55 [vb] w fun v w' => ∃ v1, v = v1 ∧ Fresh w w' [.row v1 5 1 b.length (bv b)] := by
 obtain ⟨Ab, cb, rfl, hb1, hb2⟩ := hb.row.form
 refine fun_of_sw Tryz.func55 rfl 8 rfl rfl ?_
 have hH := Hp.start w
 refine sw_sr <| Go0 1 <| Dn <| sw_seq <| sw_sr <| Go1 1 3 (.slice Ab b.length cb) <| Gq rfl (rd_snil_eql (e := 5) (by kernel_rfl) rfl rfl) <| Dn <| If rfl (fun hc1 => ?_) (fun hc1 => ?_)
 refine sw_sr <| Go1 1 2 (.slice none 0 0) <| Dn <| Rt1 rfl rfl ?_
 have hz : Ab = none := by simpa using hc1
 subst hz
 obtain rfl := hb.none
 exact ⟨_, rfl, (hH.nilRow 5 1).fresh⟩
 refine Sk <| sw_sr <| gl_st (st_buildS0 (e := 5) (m := 1) rfl rfl rfl (by kernel_rfl) (by kernel_rfl) hH ?_)
 clear hH; intro b1 w2 hH
 refine Go1 1 6 (.slice Ab b.length cb) <| gl_st (Apd (e := 5) (.int .u8 0) 1 1 0 rfl hH rfl rfl rfl (hb.row.mono hH.zin) (bv_one _) (by unfold maxLen; omega) (by omega) ?_)
 clear hH; intro v3 w4 hH
 replace hH := hH.row_eq 0 (l' := b.length) (xs' := bv b) rfl (Nat.zero_add _) (List.nil_append _)
 obtain ⟨A5, c6, rfl, hl7, hm8⟩ := hH.row_form 0 rfl
 refine Go1 1 2 (.slice A5 b.length c6) <| Dn <| Rt1 rfl rfl ?_
 exact ⟨_, rfl, (hH.sb (slk sln)).fresh⟩
theorem DActF_ct {γ : Type} (db ab : Nat) (M : Value) (D D2 : Dsk) (pt : Int) (g : FuncId) (cap : Array Value) (x : Own) (y : γ → Own) (Zp : Zone) (w : World) (hc : cutD D = (D2, false, pt)) (hA : ArOk D.ar) (hM : Mine w [.blk db 70 [M, .bool D.off, arV D.ar ab], .grp (armO D.ar ab), x]) (hZ : Zp.le (off w (blksOf [.blk db 70 [M, .bool D.off, arV D.ar ab], .grp (armO D.ar ab), x]))) (hg : callable Tryz.prog g = true)
    (hdo : ∀ w1, Mine w1 [.blk db 70 [M, .bool D2.off, arV D2.ar ab], x] → Zp.le (off w1 (blksOf [.blk db 70 [M, .bool D2.off, arV D2.ar ab], x])) → Fun Tryz.prog g cap.toList w1 fun v w' => ∃ u, v = .tuple #[] ∧ Turn w1 w' [.blk db 70 [M, .bool D2.off, arV D2.ar ab], x] [.blk db 70 [M, .bool D2.off, arV D2.ar ab], y u]) :
    Fun Tryz.prog 75 [.pointer (some ⟨db, 0, none⟩), .func (.func g) #[] cap] w fun v w' => ∃ u, v = errV 0 ∧ Turn w w' [.blk db 70 [M, .bool D.off, arV D.ar ab], .grp (armO D.ar ab), x] [.blk db 70 [M, .bool D2.off, arV D2.ar ab], .grp (armO D2.ar ab), y u] := by
 refine fun_of_sw Tryz.func75 rfl 23 rfl rfl ?_
 have hH := Hp.start_mine hM
 refine sw_sr <| Go0 1 <| Dn <| sw_sr <| Go1 1 8 (Pp db 0) ?_
 replace hH : Hp w w _ _ ([_, _] ++ [_]) := hH
 refine gl_st (Sc rfl rfl (Cut_ct _ ab _ D D2 false pt _ hc hA hH.mine) ?_)
 rintro _ w1 ⟨rfl, hF2⟩
 replace hH := hH.turns hF2
 replace hH := hH.n3
 refine Go2 5 5 (.int .i64 pt) 6 (.bool false) <| Dn <| sw_seq <| sw_sr <| Go1 7 18 (.bool true) <| Dn <| It <| sw_region <| Go1 1 19 (.func (.func g) #[] cap) ?_
 replace hH : Hp w w1 _ _ ([_, _] ++ [_]) := hH.fr2
 refine gl_st (st_callv rfl rfl rfl hg rfl rfl (hdo _ hH.mine (hZ.trans hH.zoff)) ?_)
 rintro _ w3 ⟨u, rfl, hF4⟩
 replace hH := hH.turns hF4
 replace hH := hH.n3
 refine Dd <| sw_next <| sw_seq <| sw_sr <| Go1 1 21 (.bool false) <| Dn <| Iz <| sw_skip <| sw_next <| sw_sr <| Go1 1 4 (.nilIface) <| Dn <| Rt1 rfl rfl ?_
 replace hH := hH.fr3.fr2.fr3
 exact ⟨u, rfl, hH.turned⟩
theorem DActT_ct {γ : Type} (db ab : Nat) (M : Value) (D D2 : Dsk) (pt : Int) (g : FuncId) (cap : Array Value) (x : Own) (y : γ → Own) (Zp : Zone) (w : World) (hc : cutD D = (D2, true, pt)) (hA : ArOk D.ar) (hM : Mine w [.blk db 70 [M, .bool D.off, arV D.ar ab], .grp (armO D.ar ab), x]) (hZ : Zp.le (off w (blksOf [.blk db 70 [M, .bool D.off, arV D.ar ab], .grp (armO D.ar ab), x]))) (hg : callable Tryz.prog g = true)
    (hdo : ∀ w1, Mine w1 [.blk db 70 [M, .bool D2.off, arV D2.ar ab], x] → Zp.le (off w1 (blksOf [.blk db 70 [M, .bool D2.off, arV D2.ar ab], x])) → Fun Tryz.prog g cap.toList w1 fun v w' => ∃ u, v = .tuple #[] ∧ Turn w1 w' [.blk db 70 [M, .bool D2.off, arV D2.ar ab], x] [.blk db 70 [M, .bool D2.off, arV D2.ar ab], y u]) :
    Fun Tryz.prog 75 [.pointer (some ⟨db, 0, none⟩), .func (.func g) #[] cap] w fun v w' => v = errV 80 ∧ (modI pt 2 = 1 ∧ (∃ u, Turn w w' [.blk db 70 [M, .bool D.off, arV D.ar ab], .grp (armO D.ar ab), x] [.blk db 70 [M, .bool D2.off, arV D2.ar ab], .grp (armO D2.ar ab), y u]) ∨ ¬ modI pt 2 = 1 ∧ Turn w w' [.blk db 70 [M, .bool D.off, arV D.ar ab], .grp (armO D.ar ab), x] [.blk db 70 [M, .bool D2.off, arV D2.ar ab], .grp (armO D2.ar ab), x]) := by
 refine fun_of_sw Tryz.func75 rfl 23 rfl rfl ?_
 have hH := Hp.start_mine hM
 refine sw_sr <| Go0 1 <| Dn <| sw_sr <| Go1 1 8 (Pp db 0) ?_
 replace hH : Hp w w _ _ ([_, _] ++ [_]) := hH
 refine gl_st (Sc rfl rfl (Cut_ct _ ab _ D D2 true pt _ hc hA hH.mine) ?_)
 rintro _ w1 ⟨rfl, hF2⟩
 replace hH := hH.turns hF2
 replace hH := hH.n3
 refine Go2 5 5 (.int .i64 pt) 6 (.bool true) <| Dn <| sw_seq <| sw_sr <| Gc1 5 16 (.int .i64 (Int.tmod pt 2)) (.int .i64 (Int.tmod pt 2)) (rfl) 14 (.bool false) <| Go1 1 17 (.bool ((Int.tmod pt 2) != (0 : Int))) <| gl_cv 17 (.bool (decide (modI pt 2 = 1))) (by rw [← tmod2]) rfl <| Go1 1 18 (.bool (decide (modI pt 2 = 1))) <| Dn <| If rfl (fun hc1 => ?_) (fun hc1 => ?_)
 refine sw_region <| Go1 1 19 (.func (.func g) #[] cap) ?_
 replace hH : Hp w w1 _ _ ([_, _] ++ [_]) := hH.fr2
 refine gl_st (st_callv rfl rfl rfl hg rfl rfl (hdo _ hH.mine (hZ.trans hH.zoff)) ?_)
 rintro _ w3 ⟨u, rfl, hF4⟩
 replace hH := hH.turns hF4
 replace hH := hH.n3
 refine Dd <| sw_next <| sw_seq <| sw_sr <| Go1 1 21 (.bool true) <| Dn <| It <| sw_sr <| Go1 2 4 (.iface 38 (.int .i64 80)) <| Dn <| Rt1 rfl rfl ?_
 replace hH := hH.fr3.fr2.fr3
 exact ⟨rfl, .inl ⟨hc1, u, hH.turned⟩⟩
 refine Sk <| sw_seq <| sw_sr <| Go1 1 21 (.bool true) <| Dn <| It <| sw_sr <| Go1 2 4 (.iface 38 (.int .i64 80)) <| Dn <| Rt1 rfl rfl ?_
 replace hH := hH.fr3.fr3
 exact ⟨rfl, .inr ⟨hc1, hH.turned⟩⟩
theorem DAct_ct {γ : Type} (db ab : Nat) (M : Value) (D D2 : Dsk) (cu : Bool) (pt : Int) (g : FuncId) (cap : Array Value) (x : Own) (y : γ → Own) (Zp : Zone) (w : World) (hc : cutD D = (D2, cu, pt)) (hA : ArOk D.ar) (hM : Mine w [.blk db 70 [M, .bool D.off, arV D.ar ab], .grp (armO D.ar ab), x]) (hZ : Zp.le (off w (blksOf [.blk db 70 [M, .bool D.off, arV D.ar ab], .grp (armO D.ar ab), x]))) (hg : callable Tryz.prog g = true)
    (hdo : ∀ w1, Mine w1 [.blk db 70 [M, .bool D2.off, arV D2.ar ab], x] → Zp.le (off w1 (blksOf [.blk db 70 [M, .bool D2.off, arV D2.ar ab], x])) → Fun Tryz.prog g cap.toList w1 fun v w' => ∃ u, v = .tuple #[] ∧ Turn w1 w' [.blk db 70 [M, .bool D2.off, arV D2.ar ab], x] [.blk db 70 [M, .bool D2.off, arV D2.ar ab], y u]) :
    Fun Tryz.prog 75 [.pointer (some ⟨db, 0, none⟩), .func (.func g) #[] cap] w fun v w' => ∃ x', v = errV (if cu = true then 80 else 0) ∧ Turn w w' [.blk db 70 [M, .bool D.off, arV D.ar ab], .grp (armO D.ar ab), x] [.blk db 70 [M, .bool D2.off, arV D2.ar ab], .grp (armO D2.ar ab), x'] ∧ ((cu = false ∨ modI pt 2 = 1) ∧ (∃ u, x' = y u) ∨ ¬ (cu = false ∨ modI pt 2 = 1) ∧ x' = x) := by
  cases cu with
  | false =>
    refine (DActF_ct db ab M D D2 pt g cap x y Zp w hc hA hM hZ hg hdo).mono ?_
    rintro v w' ⟨u, h1, h2⟩
    exact ⟨_, h1, h2, .inl ⟨.inl rfl, u, rfl⟩⟩
  | true =>
    refine (DActT_ct db ab M D D2 pt g cap x y Zp w hc hA hM hZ hg hdo).mono ?_
    rintro v w' ⟨h1, ⟨h2, u, h3⟩ | ⟨h2, h3⟩⟩
    · exact ⟨_, h1, h3, .inl ⟨.inr h2, u, rfl⟩⟩
    · exact ⟨_, h1, h3, .inr ⟨fun h => h.elim (fun h => by cases h) h2, rfl⟩⟩

end Go.Proofs.YtajapgjemefoiaaGreatDoor
/- Layer 18 (disk), the program's: the acts' own functions (closures), the acts; what they answer. -/
set_option maxRecDepth 100000
set_option maxHeartbeats 2000000
set_option linter.unusedVariables false
set_option linter.unusedSimpArgs false
namespace Go.Proofs.YtajapgjemefoiaaGreatDoor
open Go.RowKit Go.SW
abbrev f1O (e : PE) : Own := .blk e.fb 80 [e.v, .int .i64 ((e.sure : Nat) : Int)]
abbrev f2O (e : PE) : Own := .vw e.v 5 e.b
abbrev restO (es : List PE) (i : Nat) : Own := .grp ((es.map fun e => Own.grp (filO e)).eraseIdx i)
section
variable {w w0 : World} {z : Zone} {F : List Nat} {r : List Own}
theorem fil_out {es : List PE} {i : Nat} {e : PE} (he : es[i]? = some e) (h : Hp w0 w z F (filsO es :: r)) : Hp w0 w z F (f1O e :: f2O e :: restO es i :: r) := by
  have h1 := Hp.out (l := es.map fun e => Own.grp (filO e)) h i (o := .grp (filO e)) (by rw [List.getElem?_map, he]; rfl)
  exact h1.open_
theorem fil_in {es : List PE} {i : Nat} {e : PE} (hi : i < es.length) (h : Hp w0 w z F (f1O e :: f2O e :: restO es i :: r)) : Hp w0 w z F (filsO (es.set i e) :: r) := by
  have h0 : Hp w0 w z F (filO e ++ (restO es i :: r)) := h
  have h1 := Hp.into (l := es.map fun e => Own.grp (filO e)) (i := i) (by simpa using hi) h0.close
  refine h1.cast ?_
  unfold filsO
  rw [List.map_set]
theorem fil_del {es : List PE} {i : Nat} (hi : i < es.length) (h : Hp w0 w z F (filsO es :: r)) : Hp w0 w z F (filsO (es.eraseIdx i) :: r) := by
  have h1 := Hp.out (l := es.map fun e => Own.grp (filO e)) h i (o := .grp (filO es[i])) (by rw [List.getElem?_map, List.getElem?_eq_getElem hi]; rfl)
  have h2 := h1.sublist (List.sublist_cons_self _ _)
  refine h2.cast ?_
  unfold filsO
  rw [map_eraseIdx]
theorem fil_add {es : List PE} {e : PE} (h : Hp w0 w z F (f1O e :: f2O e :: filsO es :: r)) : Hp w0 w z F (filsO (es ++ [e]) :: r) := by
  have h0 : Hp w0 w z F (filO e ++ (filsO es :: r)) := h
  have h1 := (h0.close.perm (List.Perm.swap _ _ _)).merge
  refine h1.cast ?_
  unfold filsO
  rw [List.map_append]; rfl
theorem fil_put {es : List PE} {e : PE} (h : Hp w0 w z F (f1O e :: f2O e :: filsO es :: r)) : Hp w0 w z F (filsO (putE es e) :: r) := by
  unfold putE
  split
  · rename_i hi
    have h1 : Hp w0 w z F ([f1O e, f2O e] ++ (filsO es :: r)) := h
    have h2 : Hp w0 w z F (filsO es :: (r ++ [f1O e, f2O e])) := h1.perm List.perm_append_comm
    obtain ⟨e0, h0⟩ : ∃ e0, es[ixE es e.name]? = some e0 := ⟨_, List.getElem?_eq_getElem hi⟩
    have h3 := (fil_out h0 h2).sublist ((List.sublist_cons_self _ _).trans (List.sublist_cons_self _ _))
    have h4 : Hp w0 w z F ((restO es (ixE es e.name) :: r) ++ [f1O e, f2O e]) := h3
    exact fil_in hi (h4.perm List.perm_append_comm)
  · exact fil_add h
end

theorem PutDo_ct (pb qb nb db mb : Nat) (pw : Bool) (av vp : Value) (es : List PE) (nm p : List UInt8) (Zp : Zone) (w : World) (hM : Mine w [.blk db 70 [.map (some mb), .bool pw, av], .grp [.blk pb 37 [vp], .blk qb 25 [.pointer (some ⟨db, 0, none⟩)], .blk nb 9 [.string (bs nm)], .smap mb (kvE es), filsO es]]) (hp : RB Zp vp p) (hZ : Zp.le (off w (blksOf [.blk db 70 [.map (some mb), .bool pw, av], .grp [.blk pb 37 [vp], .blk qb 25 [.pointer (some ⟨db, 0, none⟩)], .blk nb 9 [.string (bs nm)], .smap mb (kvE es), filsO es]]))) (hpl : p.length ≤ 140737488355328) :
    Fun Tryz.prog 110 [.pointer (some ⟨pb, 0, none⟩), .pointer (some ⟨qb, 0, none⟩), .pointer (some ⟨nb, 0, none⟩)] w fun v w' => ∃ u : Nat × Value, v = .tuple #[] ∧ Turn w w' [.blk db 70 [.map (some mb), .bool pw, av], .grp [.blk pb 37 [vp], .blk qb 25 [.pointer (some ⟨db, 0, none⟩)], .blk nb 9 [.string (bs nm)], .smap mb (kvE es), filsO es]] [.blk db 70 [.map (some mb), .bool pw, av], .grp [.blk pb 37 [vp], .blk qb 25 [.pointer (some ⟨db, 0, none⟩)], .blk nb 9 [.string (bs nm)], .smap mb (kvE (putE es ⟨nm, u.1, u.2, p, p.length⟩)), filsO (putE es ⟨nm, u.1, u.2, p, p.length⟩)]] := by
 have hpz := hp.mono hZ
 obtain ⟨Ap, cp, rfl, hp1, hp2⟩ := hp.row.form
 refine fun_of_sw Tryz.func110 rfl 14 rfl rfl ?_
 have hH : Hp w w (off w (blksOf [.blk db 70 [.map (some mb), .bool pw, av], .grp [.blk pb 37 [(.slice Ap p.length cp)], .blk qb 25 [.pointer (some ⟨db, 0, none⟩)], .blk nb 9 [.string (bs nm)], .smap mb (kvE es), filsO es]])) (blksOf [.blk db 70 [.map (some mb), .bool pw, av], .grp [.blk pb 37 [(.slice Ap p.length cp)], .blk qb 25 [.pointer (some ⟨db, 0, none⟩)], .blk nb 9 [.string (bs nm)], .smap mb (kvE es), filsO es]]) ([.blk pb 37 [(.slice Ap p.length cp)], .blk qb 25 [.pointer (some ⟨db, 0, none⟩)], .blk nb 9 [.string (bs nm)], .smap mb (kvE es), filsO es] ++ [.blk db 70 [.map (some mb), .bool pw, av]]) := ((Hp.start_mine hM).pick [1, 0] (by kernel_rfl) rfl).open_
 replace hH : Hp w w _ _ [.blk pb 37 [.slice Ap p.length cp], .blk qb 25 [Pp db 0], .blk nb 9 [.string (bs nm)], .smap mb (kvE es), filsO es, .blk db 70 [.map (some mb), .bool pw, av]] := hH
 refine Dr hH (slk (slk (slk (slc (slk (slk sln)))))) ?_
 clear hH; intro w1 hH hS9
 refine Dq 0 rfl (fun _ hS => (Lk 1 hS rfl rfl rfl)) hS9 <| Gp1 2 [1,2] 5 (Pp db 0) hS9 <| Dq 3 rfl (fun _ hS => (Lk 4 hS rfl rfl rfl)) hS9 <| Dq 4 rfl (fun _ hS => (Lk 2 hS rfl rfl rfl)) hS9 <| Dq 5 rfl (fun _ hS => (Lk 0 hS rfl rfl rfl)) hS9 <| Dq 7 rfl (fun _ hS => (Lk 0 hS rfl rfl rfl)) hS9 <| Dq 8 rfl (fun _ hS => (Ln (e := 5) rfl)) hS9 <| gds 6 (Sc rfl rfl (SClone_ct _ p _ (hpz.mono hH.zin) (by omega)) ?_)
 rintro _ w4 ⟨v2, rfl, hF5⟩
 replace hH := hH.call hF5
 obtain ⟨A6, c7, rfl, hl8, hm9⟩ := hH.row_form 6 rfl
 refine Nl (hH.sb (slk (slk (slk (slc (slk (slk sln))))))) fun hS9 => Gp1 1 [9] 12 (.agg #[.slice A6 p.length c7, Ni p.length]) hS9 <| gds 10 (Bx [.slice A6 p.length c7, Ni p.length] rfl hH ?_)
 clear hH; intro b10 w11 hH
 refine Nl (hH.sb (slk (slk (slk (slc (slk (slk sln))))))) fun hS9 => gds 11 (st_smput (kt := 9) (e := 73) (v := Pp b10 0) 3 rfl rfl rfl (by kernel_rfl) (by kernel_rfl) hH rfl rfl nm rfl rfl ?_)
 clear hH; intro w12 hH
 refine Nl (hH.sb (slk (slk (slk (slc (slk (slk sln))))))) fun hS9 => gdn [] <| end0 rfl ?_
 replace hH := hH.fr7
 replace hH := hH.to_vw
 replace hH := hH.fr6.fr2.fr8
 replace hH : Hp w w12 _ _ (f1O ⟨nm, b10, (.slice A6 p.length c7), p, p.length⟩ :: f2O ⟨nm, b10, (.slice A6 p.length c7), p, p.length⟩ :: filsO es :: [.blk pb 37 [.slice Ap p.length cp], .blk qb 25 [Pp db 0], .blk nb 9 [.string (bs nm)], .smap mb (kput (kvE es) nm (Pp b10 0)), .blk db 70 [.map (some mb), .bool pw, av]]) := hH
 replace hH := fil_put hH
 have hk : kput (kvE es) nm (.pointer (some ⟨b10, 0, none⟩)) = kvE (putE es ⟨nm, b10, (.slice A6 p.length c7), p, p.length⟩) := kput_kvE es ⟨nm, b10, (.slice A6 p.length c7), p, p.length⟩
 replace hH := hH.cast (os' := [filsO (putE es ⟨nm, b10, (.slice A6 p.length c7), p, p.length⟩), .blk pb 37 [.slice Ap p.length cp], .blk qb 25 [Pp db 0], .blk nb 9 [.string (bs nm)], .smap mb (kvE (putE es ⟨nm, b10, (.slice A6 p.length c7), p, p.length⟩)), .blk db 70 [.map (some mb), .bool pw, av]]) (by rw [hk])
 replace hH := hH.fr6.fr2.fr6.fr6.fr6.fr6
 replace hH := (hH.sb (slk (slk (slk (slk (slk (slk sln))))))).n6
 have h2 : Hp w w12 _ _ ([.blk pb 37 [.slice Ap p.length cp], .blk qb 25 [Pp db 0], .blk nb 9 [.string (bs nm)], .smap mb (kvE (putE es ⟨nm, b10, (.slice A6 p.length c7), p, p.length⟩)), filsO (putE es ⟨nm, b10, (.slice A6 p.length c7), p, p.length⟩)] ++ [.blk db 70 [.map (some mb), .bool pw, av]]) := hH
 exact ⟨(b10, (.slice A6 p.length c7)), rfl, (h2.close.pick [1, 0] (by kernel_rfl) rfl).turned⟩
theorem RemDo_ct (qb nb db mb : Nat) (pw : Bool) (av : Value) (es : List PE) (nm : List UInt8) (w : World) (hM : Mine w [.blk db 70 [.map (some mb), .bool pw, av], .grp [.blk qb 25 [.pointer (some ⟨db, 0, none⟩)], .blk nb 9 [.string (bs nm)], .smap mb (kvE es), filsO es]]) (hi : ixE es nm < es.length) :
    Fun Tryz.prog 76 [.pointer (some ⟨qb, 0, none⟩), .pointer (some ⟨nb, 0, none⟩)] w fun v w' => ∃ u : Unit, v = .tuple #[] ∧ Turn w w' [.blk db 70 [.map (some mb), .bool pw, av], .grp [.blk qb 25 [.pointer (some ⟨db, 0, none⟩)], .blk nb 9 [.string (bs nm)], .smap mb (kvE es), filsO es]] [.blk db 70 [.map (some mb), .bool pw, av], .grp [.blk qb 25 [.pointer (some ⟨db, 0, none⟩)], .blk nb 9 [.string (bs nm)], .smap mb (kvE (es.eraseIdx (ixE es nm))), filsO (es.eraseIdx (ixE es nm))]] := by
 refine fun_of_sw Tryz.func76 rfl 7 rfl rfl ?_
 have hH : Hp w w (off w (blksOf [.blk db 70 [.map (some mb), .bool pw, av], .grp [.blk qb 25 [.pointer (some ⟨db, 0, none⟩)], .blk nb 9 [.string (bs nm)], .smap mb (kvE es), filsO es]])) (blksOf [.blk db 70 [.map (some mb), .bool pw, av], .grp [.blk qb 25 [.pointer (some ⟨db, 0, none⟩)], .blk nb 9 [.string (bs nm)], .smap mb (kvE es), filsO es]]) ([.blk qb 25 [.pointer (some ⟨db, 0, none⟩)], .blk nb 9 [.string (bs nm)], .smap mb (kvE es), filsO es] ++ [.blk db 70 [.map (some mb), .bool pw, av]]) := ((Hp.start_mine hM).pick [1, 0] (by kernel_rfl) rfl).open_
 replace hH : Hp w w _ _ [.blk qb 25 [Pp db 0], .blk nb 9 [.string (bs nm)], .smap mb (kvE es), filsO es, .blk db 70 [.map (some mb), .bool pw, av]] := hH
 refine Dr hH (slk (slk (slc (slk (slk sln))))) ?_
 clear hH; intro w1 hH hS9
 refine Dq 0 rfl (fun _ hS => (Lk 0 hS rfl rfl rfl)) hS9 <| Gp1 2 [1,2] 4 (Pp db 0) hS9 <| Dq 3 rfl (fun _ hS => (Lk 3 hS rfl rfl rfl)) hS9 <| Dq 4 rfl (fun _ hS => (Lk 1 hS rfl rfl rfl)) hS9 <| gds 5 (st_smdel (kt := 9) (e := 73) 2 rfl rfl rfl (by kernel_rfl) (by kernel_rfl) hH rfl rfl nm rfl ?_)
 clear hH; intro w2 hH
 refine Nl (hH.sb (slk (slk (slc (slk (slk sln)))))) fun hS9 => gdn [] <| end0 rfl ?_
 replace hH := hH.fr4
 replace hH := fil_del hi hH
 replace hH := hH.cast (os' := [filsO (es.eraseIdx (ixE es nm)), .blk qb 25 [Pp db 0], .blk nb 9 [.string (bs nm)], .smap mb (kvE (es.eraseIdx (ixE es nm))), .blk db 70 [.map (some mb), .bool pw, av]]) (by rw [kdel_kvE])
 replace hH := hH.fr5.fr2.fr5.fr5.fr5
 replace hH := (hH.sb (slk (slk (slk (slk (slk sln)))))).n5
 have h2 : Hp w w2 _ _ ([.blk qb 25 [Pp db 0], .blk nb 9 [.string (bs nm)], .smap mb (kvE (es.eraseIdx (ixE es nm))), filsO (es.eraseIdx (ixE es nm))] ++ [.blk db 70 [.map (some mb), .bool pw, av]]) := hH
 exact ⟨(), rfl, (h2.close.pick [1, 0] (by kernel_rfl) rfl).turned⟩
end Go.Proofs.YtajapgjemefoiaaGreatDoor
/- Layer 18 (disk), the program's: the acts' own functions of Sync and Cut; what they answer. -/
set_option maxRecDepth 100000
set_option maxHeartbeats 4000000
set_option linter.unusedVariables false
set_option linter.unusedSimpArgs false
namespace Go.Proofs.YtajapgjemefoiaaGreatDoor
open Go.RowKit Go.SW

theorem SyncDo_ct (tb : Nat) (es : List PE) (i : Nat) (nm : List UInt8) (fb : Nat) (fv : Value) (b : List UInt8) (sr : Nat) (he : es[i]? = some ⟨nm, fb, fv, b, sr⟩) (h : Own) (w : World) (hM : Mine w [h, .grp [.blk tb 73 [.pointer (some ⟨fb, 0, none⟩)], filsO es]]) :
    Fun Tryz.prog 79 [.pointer (some ⟨tb, 0, none⟩)] w fun v w' => ∃ u : Unit, v = .tuple #[] ∧ Turn w w' [h, .grp [.blk tb 73 [.pointer (some ⟨fb, 0, none⟩)], filsO es]] [h, .grp [.blk tb 73 [.pointer (some ⟨fb, 0, none⟩)], filsO (es.set i ⟨nm, fb, fv, b, b.length⟩)]] := by
 refine fun_of_sw Tryz.func79 rfl 9 rfl rfl ?_
 have hH : Hp w w (off w (blksOf [h, .grp [.blk tb 73 [.pointer (some ⟨fb, 0, none⟩)], filsO es]])) (blksOf [h, .grp [.blk tb 73 [.pointer (some ⟨fb, 0, none⟩)], filsO es]]) ([.blk tb 73 [.pointer (some ⟨fb, 0, none⟩)], filsO es] ++ [h]) := ((Hp.start_mine hM).pick [1, 0] (by kernel_rfl) rfl).open_
 replace hH : Hp w w _ _ [.blk tb 73 [Pp fb 0], filsO es, h] := hH
 replace hH := hH.fr2
 replace hH := fil_out he hH
 replace hH : Hp w w _ _ [.blk fb 80 [fv, Ni sr], .vw fv 5 b, restO es i, .blk tb 73 [Pp fb 0], h] := hH
 obtain ⟨Af, cf, hv, hv1, hv2⟩ := hH.vw_form 1 rfl
 subst hv
 refine Dr hH (slc (slk (slk (slk (slk sln))))) ?_
 clear hH; intro w1 hH hS9
 refine Dq 0 rfl (fun _ hS => (Lk 2 hS rfl rfl rfl)) hS9 <| Dq 1 rfl (fun _ hS => (Lk 2 hS rfl rfl rfl)) hS9 <| Gp1 2 [2,3] 4 (Pp fb 0) hS9 <| gds 4 (st_q rfl rfl rfl (Lk 0 hH rfl rfl rfl) ?_)
 refine Nl hS9 fun hS9 => Dq 5 rfl (fun _ hS => (Ln (e := 5) rfl)) hS9 <| Gp1 2 [6,7] 8 (Pp fb 1) hS9 <| gds 8 (Ks 0 (Ni b.length) rfl hH rfl rfl ?_)
 clear hH; intro w2 hH
 refine Nl (hH.sb (slc (slk (slk (slk (slk sln)))))) fun hS9 => gdn [] <| end0 rfl ?_
 replace hH : Hp w w2 _ _ (f1O ⟨nm, fb, .slice Af b.length cf, b, b.length⟩ :: f2O ⟨nm, fb, .slice Af b.length cf, b, b.length⟩ :: restO es i :: [.blk tb 73 [Pp fb 0], h]) := hH
 replace hH := fil_in (List.getElem?_eq_some_iff.1 he).1 hH
 replace hH := hH.fr3.fr2.fr3
 replace hH := (hH.sb (slk (slk (slk sln)))).n3
 have h2 : Hp w w2 _ _ ([.blk tb 73 [Pp fb 0], filsO (es.set i ⟨nm, fb, .slice Af b.length cf, b, b.length⟩)] ++ [h]) := hH
 exact ⟨(), rfl, (h2.close.pick [1, 0] (by kernel_rfl) rfl).turned⟩
def sliceA : Value → Option Addr
  | .slice A _ _ => A
  | _ => none

theorem CutDo_ct (tb nb n : Nat) (es : List PE) (i : Nat) (nm : List UInt8) (fb : Nat) (fv : Value) (b : List UInt8) (sr : Nat) (he : es[i]? = some ⟨nm, fb, fv, b, sr⟩) (h : Own) (w : World) (hM : Mine w [h, .grp [.blk tb 73 [.pointer (some ⟨fb, 0, none⟩)], .blk nb 3 [.int .i64 ((n : Nat) : Int)], filsO es]]) (hn : n ≤ b.length) :
    Fun Tryz.prog 78 [.pointer (some ⟨tb, 0, none⟩), .pointer (some ⟨nb, 0, none⟩)] w fun v w' => ∃ u : Unit, v = .tuple #[] ∧ Turn w w' [h, .grp [.blk tb 73 [.pointer (some ⟨fb, 0, none⟩)], .blk nb 3 [.int .i64 ((n : Nat) : Int)], filsO es]] [h, .grp [.blk tb 73 [.pointer (some ⟨fb, 0, none⟩)], .blk nb 3 [.int .i64 ((n : Nat) : Int)], filsO (es.set i ⟨nm, fb, .slice (sliceA fv) n n, b.take n, min sr n⟩)]] := by
 refine fun_of_sw Tryz.func78 rfl 21 rfl rfl ?_
 have hH : Hp w w (off w (blksOf [h, .grp [.blk tb 73 [.pointer (some ⟨fb, 0, none⟩)], .blk nb 3 [.int .i64 ((n : Nat) : Int)], filsO es]])) (blksOf [h, .grp [.blk tb 73 [.pointer (some ⟨fb, 0, none⟩)], .blk nb 3 [.int .i64 ((n : Nat) : Int)], filsO es]]) ([.blk tb 73 [.pointer (some ⟨fb, 0, none⟩)], .blk nb 3 [.int .i64 ((n : Nat) : Int)], filsO es] ++ [h]) := ((Hp.start_mine hM).pick [1, 0] (by kernel_rfl) rfl).open_
 replace hH : Hp w w _ _ [.blk tb 73 [Pp fb 0], .blk nb 3 [Ni n], filsO es, h] := hH
 replace hH := hH.fr3
 replace hH := fil_out he hH
 replace hH : Hp w w _ _ [.blk fb 80 [fv, Ni sr], .vw fv 5 b, restO es i, .blk tb 73 [Pp fb 0], .blk nb 3 [Ni n], h] := hH
 obtain ⟨Af, cf, hv, hv1, hv2⟩ := hH.vw_form 1 rfl
 subst hv
 refine Dr hH (slc (slk (slk (slk (slk (slk sln)))))) ?_
 clear hH; intro w1 hH hS9
 refine Dq 0 rfl (fun _ hS => (Lk 2 hS rfl rfl rfl)) hS9 <| Dq 1 rfl (fun _ hS => (Lk 2 hS rfl rfl rfl)) hS9 <| Dq 2 rfl (fun _ hS => (Lk 2 hS rfl rfl rfl)) hS9 <| Gp1 2 [3,4] 6 (Pp fb 0) hS9 <| Dq 6 rfl (fun _ hS => (Lk 3 hS rfl rfl rfl)) hS9 <| Dq 7 rfl (fun _ hS => (Lk 3 hS rfl rfl rfl)) hS9 <| Dq 9 rfl (fun _ hS => (Lk 2 hS rfl rfl rfl)) hS9 <| Gp1 2 [10,11] 13 (Pp fb 1) hS9 <| Dq 13 rfl (fun _ hS => (Lk 3 hS rfl rfl rfl)) hS9 <| gd_st2 5 12 (by kernel_rfl) ?_ ?_
 refine st_q rfl rfl rfl (Lk 0 hH rfl rfl rfl) <| Nl hS9 fun hS9 => gdk [(2, Pp fb 0), (3, Pp fb 0), (7, .slice Af b.length cf), (8, Ni n), (9, Ni n), (13, Pp fb 1), (15, Ni n)] <| Dq 8 rfl (fun _ hS => (rd_cut3 (e := 5) (m := 1) (by kernel_rfl) (by kernel_rfl) rfl (.inl ⟨rfl, rfl⟩) rfl rfl (cut3_front Af b.length cf n 1 (by omega)))) hS9 <| gdk [(2, Pp fb 0), (3, Pp fb 0), (10, .slice Af n n), (13, Pp fb 1), (15, Ni n)] <| gds 12 (st_q rfl rfl rfl (Lk 0 hH rfl rfl rfl) ?_)
 refine Nl hS9 fun hS9 => Dc0 1 [14] 16 (.int .i64 (if (n : Int) < (sr : Int) then (n : Int) else (sr : Int))) (Ni (min sr n)) (cv_minN) hS9 <| Gp1 2 [15,16] 18 (Pp fb 0) hS9 <| gds 17 (Ks 0 (.slice Af n n) rfl hH rfl rfl ?_)
 clear hH; intro w2 hH
 refine Nl (hH.sb (slc (slk (slk (slk (slk (slk sln))))))) fun hS9 => Gp1 2 [18,19] 20 (Pp fb 1) hS9 <| gds 20 (Ks 0 (Ni (min sr n)) rfl hH rfl rfl ?_)
 clear hH; intro w3 hH
 refine Nl (hH.sb (slc (slk (slk (slk (slk (slk sln))))))) fun hS9 => gdn [] <| end0 rfl ?_
 replace hH := hH.fr2
 replace hH := hH.cut_vw n (by omega)
 replace hH := hH.fr3.fr2.fr3
 replace hH : Hp w w3 _ _ (f1O ⟨nm, fb, .slice Af n n, b.take n, min sr n⟩ :: f2O ⟨nm, fb, .slice Af n n, b.take n, min sr n⟩ :: restO es i :: [.blk tb 73 [Pp fb 0], .blk nb 3 [Ni n], h]) := hH
 replace hH := fil_in (List.getElem?_eq_some_iff.1 he).1 hH
 replace hH := hH.fr4.fr2.fr4.fr4
 replace hH := (hH.sb (slk (slk (slk (slk sln))))).n4
 have h2 : Hp w w3 _ _ ([.blk tb 73 [Pp fb 0], .blk nb 3 [Ni n], filsO (es.set i ⟨nm, fb, .slice Af n n, b.take n, min sr n⟩)] ++ [h]) := hH
 exact ⟨(), rfl, (h2.close.pick [1, 0] (by kernel_rfl) rfl).turned⟩
 refine st_q rfl rfl rfl (Lk 0 hH rfl rfl rfl) <| Nl hS9 fun hS9 => gdk [(2, Pp fb 0), (3, Pp fb 0), (6, Pp fb 0), (8, Ni n), (9, Ni n), (14, Ni sr), (15, Ni n)] <| Dc0 1 [14] 16 (.int .i64 (if (n : Int) < (sr : Int) then (n : Int) else (sr : Int))) (Ni (min sr n)) (cv_minN) hS9 <| gds 5 (st_q rfl rfl rfl (Lk 0 hH rfl rfl rfl) ?_)
 refine Nl hS9 fun hS9 => Dq 8 rfl (fun _ hS => (rd_cut3 (e := 5) (m := 1) (by kernel_rfl) (by kernel_rfl) rfl (.inl ⟨rfl, rfl⟩) rfl rfl (cut3_front Af b.length cf n 1 (by omega)))) hS9 <| gdk [(2, Pp fb 0), (3, Pp fb 0), (10, .slice Af n n), (16, Ni (min sr n))] <| Gp1 2 [15,16] 18 (Pp fb 0) hS9 <| gds 17 (Ks 0 (.slice Af n n) rfl hH rfl rfl ?_)
 clear hH; intro w4 hH
 refine Nl (hH.sb (slc (slk (slk (slk (slk (slk sln))))))) fun hS9 => Gp1 2 [18,19] 20 (Pp fb 1) hS9 <| gds 20 (Ks 0 (Ni (min sr n)) rfl hH rfl rfl ?_)
 clear hH; intro w5 hH
 refine Nl (hH.sb (slc (slk (slk (slk (slk (slk sln))))))) fun hS9 => gdn [] <| end0 rfl ?_
 replace hH := hH.fr2
 replace hH := hH.cut_vw n (by omega)
 replace hH := hH.fr3.fr2.fr3
 replace hH : Hp w w5 _ _ (f1O ⟨nm, fb, .slice Af n n, b.take n, min sr n⟩ :: f2O ⟨nm, fb, .slice Af n n, b.take n, min sr n⟩ :: restO es i :: [.blk tb 73 [Pp fb 0], .blk nb 3 [Ni n], h]) := hH
 replace hH := fil_in (List.getElem?_eq_some_iff.1 he).1 hH
 replace hH := hH.fr4.fr2.fr4.fr4
 replace hH := (hH.sb (slk (slk (slk (slk sln))))).n4
 have h2 : Hp w w5 _ _ ([.blk tb 73 [Pp fb 0], .blk nb 3 [Ni n], filsO (es.set i ⟨nm, fb, .slice Af n n, b.take n, min sr n⟩)] ++ [h]) := hH
 exact ⟨(), rfl, (h2.close.pick [1, 0] (by kernel_rfl) rfl).turned⟩
end Go.Proofs.YtajapgjemefoiaaGreatDoor
/- Layer 18 (disk), the program's: Sync, Put, Cut, Remove, Append, Read: what they answer. -/
set_option maxRecDepth 100000
set_option maxHeartbeats 2000000
set_option linter.unusedVariables false
set_option linter.unusedSimpArgs false
namespace Go.Proofs.YtajapgjemefoiaaGreatDoor
open Go.RowKit Go.SW
theorem at_zero {pw : Bool} {es : List PE} {nm : List UInt8} (h : mayQ pw es nm = 0) : ∃ fb fv b sr, es[ixE es nm]? = some ⟨nm, fb, fv, b, sr⟩ ∧ atV pw es nm = .pointer (some ⟨fb, 0, none⟩) ∧ ixE es nm < es.length := by
  have hlt : ixE es nm < es.length := by
    unfold mayQ at h
    split at h
    · omega
    split at h
    · omega
    split at h
    · assumption
    · omega
  obtain ⟨⟨nm2, fb, fv, b, sr⟩, h2, h3⟩ := ix_at hlt
  simp only at h3
  subst h3
  exact ⟨fb, fv, b, sr, h2, by unfold atV fV; rw [if_pos h, h2], hlt⟩
theorem old_of {es : List PE} {F : List Fil} (h : Rep es F) {nm : List UInt8} {fb : Nat} {fv : Value} {b : List UInt8} {sr : Nat} (he : es[ixE es nm]? = some ⟨nm, fb, fv, b, sr⟩) : oldF F nm = ⟨nm, b, sr⟩ := by
  unfold oldF
  rw [← rep_get h nm, he]; rfl
theorem doD_err {D : Dsk} {kind : Nat} {nm p : List UInt8} {n : Int} {th : Bool} (ht : decide (kind ≠ 0 ∧ kind ≠ 2) = th) (h : mayE D nm th ≠ 0) : doD D kind nm p n = (D, mayE D nm th) := by
  unfold doD
  rw [ht, if_pos h]
theorem doD_ok {D D2 : Dsk} {kind : Nat} {nm p : List UInt8} {n : Int} {th cu : Bool} {pt : Int} (ht : decide (kind ≠ 0 ∧ kind ≠ 2) = th) (h : mayE D nm th = 0) (h2 : ¬ (kind = 3 ∧ (n < 0 ∨ ((oldF D.fs nm).b.length : Int) < n))) (hc : cutD D = (D2, cu, pt)) :
    doD D kind nm p n = ({ D2 with fs := if cu = false ∨ kind = 0 ∨ modI pt 2 = 1 then doF D.fs kind nm (if cu = true ∧ kind = 0 then p.take (modI pt (p.length + 1)) else p) n.toNat else D.fs }, if cu = true then 80 else 0) := by
  unfold doD
  rw [ht, if_neg (by rw [h]; simp), if_neg h2, hc]
abbrev ownD (db mb ab : Nat) (D : Dsk) (es : List PE) : List Own := [.grp (dskO db mb ab D es)]
def ActPost (db mb ab : Nat) (D : Dsk) (es : List PE) (R : Dsk × Nat) (w : World) (v : Value) (w' : World) : Prop := ∃ es', v = errV R.2 ∧ Rep es' R.1.fs ∧ Turn w w' (ownD db mb ab D es) (ownD db mb ab R.1 es')
section
variable {w w' : World} {db mb ab : Nat} {D D2 : Dsk} {es es' : List PE} {kind : Nat} {nm p : List UInt8} {n : Int} {th cu : Bool} {pt : Int}
theorem fin_err (hR : Rep es D.fs) (ht : decide (kind ≠ 0 ∧ kind ≠ 2) = th) (e : Nat) (he : mayE D nm th = e) (h : e ≠ 0) (hT : Turn w w' (ownD db mb ab D es) (ownD db mb ab D es)) : ActPost db mb ab D es (doD D kind nm p n) w (errV e) w' := by
  subst he
  rw [doD_err ht h]
  exact ⟨es, rfl, hR, hT⟩
theorem fin_run (ht : decide (kind ≠ 0 ∧ kind ≠ 2) = th) (h : mayE D nm th = 0) (h2 : ¬ (kind = 3 ∧ (n < 0 ∨ ((oldF D.fs nm).b.length : Int) < n))) (hc : cutD D = (D2, cu, pt)) (hk : kind ≠ 0) (hrun : cu = false ∨ modI pt 2 = 1)
    (hrep : Rep es' (doF D.fs kind nm p n.toNat)) (hT : Turn w w' (ownD db mb ab D es) [.grp [hdO db mb ab D2.off D2.ar, .smap mb (kvE es'), filsO es', .grp (armO D2.ar ab)]]) : ActPost db mb ab D es (doD D kind nm p n) w (errV (if cu = true then 80 else 0)) w' := by
  rw [doD_ok ht h h2 hc]
  refine ⟨es', rfl, ?_, hT⟩
  show Rep es' (if cu = false ∨ kind = 0 ∨ modI pt 2 = 1 then doF D.fs kind nm (if cu = true ∧ kind = 0 then p.take (modI pt (p.length + 1)) else p) n.toNat else D.fs)
  rw [if_pos (hrun.elim .inl fun h => .inr (.inr h)), if_neg (fun h => hk h.2)]
  exact hrep
theorem fin_not (hR : Rep es D.fs) (ht : decide (kind ≠ 0 ∧ kind ≠ 2) = th) (h : mayE D nm th = 0) (h2 : ¬ (kind = 3 ∧ (n < 0 ∨ ((oldF D.fs nm).b.length : Int) < n))) (hc : cutD D = (D2, cu, pt)) (hk : kind ≠ 0) (hrun : ¬ (cu = false ∨ modI pt 2 = 1))
    (hT : Turn w w' (ownD db mb ab D es) [.grp [hdO db mb ab D2.off D2.ar, .smap mb (kvE es), filsO es, .grp (armO D2.ar ab)]]) : ActPost db mb ab D es (doD D kind nm p n) w (errV (if cu = true then 80 else 0)) w' := by
  rw [doD_ok ht h h2 hc]
  refine ⟨es, rfl, ?_, hT⟩
  show Rep es (if cu = false ∨ kind = 0 ∨ modI pt 2 = 1 then doF D.fs kind nm (if cu = true ∧ kind = 0 then p.take (modI pt (p.length + 1)) else p) n.toNat else D.fs)
  rw [if_neg (fun h => hrun (h.elim .inl fun h => h.elim (fun h => absurd h hk) .inr))]
  exact hR
theorem fin_arg (hR : Rep es D.fs) (h : mayE D nm true = 0) (h2 : n < 0 ∨ ((oldF D.fs nm).b.length : Int) < n) (hT : Turn w w' (ownD db mb ab D es) (ownD db mb ab D es)) : ActPost db mb ab D es (doD D 3 nm p n) w (errV 1) w' := by
  have e : doD D 3 nm p n = (D, 1) := by
    unfold doD
    rw [show decide ((3 : Nat) ≠ 0 ∧ (3 : Nat) ≠ 2) = true from rfl, if_neg (by rw [h]; simp), if_pos ⟨rfl, h2⟩]
  rw [e]
  exact ⟨es, rfl, hR, hT⟩
theorem fin_app (q : List UInt8) (h : mayE D nm false = 0) (hc : cutD D = (D2, cu, pt)) (hq : q = if cu = true then p.take (modI pt (p.length + 1)) else p) (hrep : Rep es' (doF D.fs 0 nm q 0))
    (hT : Turn w w' (ownD db mb ab D es) [.grp [hdO db mb ab D2.off D2.ar, .smap mb (kvE es'), filsO es', .grp (armO D2.ar ab)]]) : ActPost db mb ab D es (doD D 0 nm p 0) w (errV (if cu = true then 80 else 0)) w' := by
  rw [doD_ok (th := false) rfl h (fun h => absurd h.1 (by decide)) hc]
  refine ⟨es', rfl, ?_, hT⟩
  show Rep es' (if cu = false ∨ 0 = 0 ∨ modI pt 2 = 1 then doF D.fs 0 nm (if cu = true ∧ 0 = 0 then p.take (modI pt (p.length + 1)) else p) 0 else D.fs)
  rw [if_pos (.inr (.inl rfl))]
  rw [hq] at hrep
  by_cases hcu : cu = true
  · rw [if_pos ⟨hcu, rfl⟩]; rw [if_pos hcu] at hrep; exact hrep
  · rw [if_neg (fun h => hcu h.1)]; rw [if_neg hcu] at hrep; exact hrep
end
theorem errV_if {e : Nat} (h : e ≠ 0) : errV e = .iface 38 (.int .i64 ((e : Nat) : Int)) := by unfold errV errW; rw [if_neg h]
theorem at_n0 {pw : Bool} {es : List PE} {nm : List UInt8} (h : mayQ pw es nm ≠ 0) : atV pw es nm = .pointer none := by unfold atV; rw [if_neg h]
theorem at_81 {pw : Bool} {es : List PE} {nm : List UInt8} (h : mayQ pw es nm = 81) : ¬ ixE es nm < es.length := by
  intro hlt
  unfold mayQ at h
  rw [if_pos hlt] at h
  split at h
  · omega
  split at h <;> omega
theorem old_none {es : List PE} {F : List Fil} (h : Rep es F) {nm : List UInt8} (hn : ¬ ixE es nm < es.length) : oldF F nm = ⟨nm, [], 0⟩ := by
  unfold oldF
  rw [← rep_get h nm, List.getElem?_eq_none (by omega)]; rfl
theorem ff_zero {D : Dsk} {es : List PE} (hR : Rep es D.fs) {nm : List UInt8} (h : mayQ D.off es nm = 0 ∨ mayQ D.off es nm = 81) : mayE D nm false = 0 := by
  rw [mayE_ff hR]
  rcases h with h | h <;> rw [h] <;> rfl
theorem ff_err {D : Dsk} {es : List PE} (hR : Rep es D.fs) {nm : List UInt8} (h : mayQ D.off es nm ≠ 81) : mayE D nm false = mayQ D.off es nm := by rw [mayE_ff hR, if_neg h]
section
variable {w w0 : World} {z : Zone} {F : List Nat} {os : List Own}
theorem fil_own (hH : Hp w0 w z F os) (k : Nat) {es : List PE} (hk : os[k]? = some (filsO es)) {i : Nat} {e : PE} (he : es[i]? = some e) : (f1O e).at w ∧ (f2O e).at w := by
  have h : ∀ o ∈ es.map (fun e => Own.grp (filO e)), o.at w := hH.own _ (List.mem_of_getElem? hk)
  have h1 : ∀ o ∈ filO e, o.at w := h _ (List.mem_map.2 ⟨e, List.mem_of_getElem? he, rfl⟩)
  exact ⟨h1 _ List.mem_cons_self, h1 _ (List.mem_cons_of_mem _ List.mem_cons_self)⟩
theorem fil_cell0 (hH : Hp w0 w z F os) (k : Nat) {es : List PE} (hk : os[k]? = some (filsO es)) {i : Nat} {nm : List UInt8} {fb : Nat} {fv : Value} {b : List UInt8} {sr : Nat} (he : es[i]? = some ⟨nm, fb, fv, b, sr⟩) : w.cell? ⟨fb, 0, none⟩ = some fv := by
  have h : w.heap[fb]? = some (.cells #[fv, .int .i64 ((sr : Nat) : Int)] 80 (0, 0)) := (fil_own hH k hk he).1
  simp [World.cell?, h]
theorem fil_cell1 (hH : Hp w0 w z F os) (k : Nat) {es : List PE} (hk : os[k]? = some (filsO es)) {i : Nat} {nm : List UInt8} {fb : Nat} {fv : Value} {b : List UInt8} {sr : Nat} (he : es[i]? = some ⟨nm, fb, fv, b, sr⟩) : w.cell? ⟨fb, 1, none⟩ = some (.int .i64 ((sr : Nat) : Int)) := by
  have h : w.heap[fb]? = some (.cells #[fv, .int .i64 ((sr : Nat) : Int)] 80 (0, 0)) := (fil_own hH k hk he).1
  simp [World.cell?, h]
theorem fil_rb (hH : Hp w0 w z F os) (k : Nat) {es : List PE} (hk : os[k]? = some (filsO es)) {i : Nat} {nm : List UInt8} {fb : Nat} {fv : Value} {b : List UInt8} {sr : Nat} (he : es[i]? = some ⟨nm, fb, fv, b, sr⟩) : RB w.cell? fv b := vw_row (fil_own hH k hk he).2
end
theorem good_at {es : List PE} {F : List Fil} {M : Nat} (hG : Good F M) (hR : Rep es F) {i : Nat} {nm : List UInt8} {fb : Nat} {fv : Value} {b : List UInt8} {sr : Nat} (he : es[i]? = some ⟨nm, fb, fv, b, sr⟩) : b.length ≤ M ∧ sr ≤ b.length ∧ nm.length ≤ 32 := by
  have h : (⟨nm, b, sr⟩ : Fil) ∈ F := hR.perm.mem_iff.1 (List.mem_map.2 ⟨_, List.mem_of_getElem? he, rfl⟩)
  exact ⟨hG.short _ h, hG.sure _ h, hG.nm _ h⟩

theorem DPut_ct (db mb ab : Nat) (D : Dsk) (es : List PE) (nm : List UInt8) (vp : Value) (p : List UInt8) (M : Nat) (w : World) (hM : Mine w (ownD db mb ab D es)) (hR : Rep es D.fs) (hA : ArOk D.ar) (hG : Good D.fs M) (hMM : M ≤ 140737488355328) (hs : nm.length ≤ 140737488355328) (hp : RB (off w (blksOf (ownD db mb ab D es))) vp p) (hpl : p.length ≤ 140737488355328) :
    Fun Tryz.prog 71 [.pointer (some ⟨db, 0, none⟩), .string (bs nm), vp] w fun v w' => ActPost db mb ab D es (doD D 2 nm p 0) w v w' := by
 obtain ⟨Ap, cp, rfl, hp1, hp2⟩ := hp.row.form
 refine fun_of_sw Tryz.func71 rfl 26 rfl rfl ?_
 have hH : Hp w w (off w (blksOf (ownD db mb ab D es))) (blksOf (ownD db mb ab D es)) (dskO db mb ab D es ++ []) := (Hp.start_mine hM).open_
 replace hH : Hp w w _ _ [.blk db 70 [.map (some mb), .bool D.off, arV D.ar ab], .smap mb (kvE es), filsO es, .grp (armO D.ar ab)] := hH
 refine sw_sr <| gl_st (Bx [Pp db 0] rfl hH ?_)
 clear hH; intro b1 w2 hH
 refine gl_st (Bx [.string (bs nm)] rfl hH ?_)
 clear hH; intro b3 w4 hH
 refine gl_st (Bx [.slice Ap p.length cp] rfl hH ?_)
 clear hH; intro b5 w6 hH
 refine Go0 1 <| Dn <| sw_seq <| sw_sr <| Gq rfl (Lk 4 hH rfl rfl rfl) <| Gq rfl (Lk 5 hH rfl rfl rfl) ?_
 replace hH : Hp w w6 _ _ ([_, _] ++ [_, _, _, _, _]) := hH
 refine gl_st (Sc rfl rfl (At_ct _ _ _ _ es nm _ hs hH.mine) ?_)
 rintro _ w7 ⟨rfl, hF8⟩
 replace hH := hH.turns hF8
 replace hH := hH.n7
 refine Go1 5 8 (errV (mayQ D.off es nm)) <| Dn <| sw_sr <| Go1 1 15 (errV (mayQ D.off es nm)) <| Gq rfl (rd_err_ne (by kernel_rfl) rfl) <| Go1 1 17 (.bool ((mayQ D.off es nm) != 0)) <| Gi 17 rfl (fun hg1 => ?_) (fun hg1 => ?_)
 refine Go1 1 18 (errV (mayQ D.off es nm)) <| gl_cv 18 (.iface 38 (Ni (mayQ D.off es nm))) (errV_if (by omega)) rfl <| Go1 1 19 (.iface 38 (.int .i64 81)) <| Gq rfl (rd_ifi_ne (k0 := .i64) (by kernel_rfl) (by kernel_rfl) (by kernel_rfl) rfl rfl) <| Go1 1 21 (.bool ((((mayQ D.off es nm : Nat) : Int) : Int) != 81)) <| Dn <| If rfl (fun hc2 => ?_) (fun hc2 => ?_)
 refine sw_sr <| Go1 2 6 (errV (mayQ D.off es nm)) <| Dn <| Rt1 rfl rfl ?_
 replace hH := hH.fr2.fr2.fr7.fr7
 replace hH := (hH.sb (slk (slk (slk (slk sln))))).n4
 exact fin_err (kind := 2) (th := false) hR rfl _ (ff_err hR (by omega)) (by omega) ((hH.close (r := [])).turned)
 have hm81 : mayQ D.off es nm = 81 := by omega
 have hm0 : mayE D nm false = 0 := ff_zero hR (.inr hm81)
 have hnot := at_81 hm81
 have hold := old_none hR hnot
 refine Sk <| sw_sr <| Gq rfl (Lk 2 hH rfl rfl rfl) ?_
 obtain ⟨D2, cu, pt, hcut⟩ : ∃ D2 cu pt, cutD D = (D2, cu, pt) := ⟨_, _, _, rfl⟩
 replace hH := hH.fr7.fr5.fr5.fr6
 replace hH : Hp w w7 _ _ ([.blk b5 37 [.slice Ap p.length cp], .blk b1 25 [Pp db 0], .blk b3 9 [.string (bs nm)], .smap mb (kvE es), filsO es] ++ [.grp (armO D.ar ab), .blk db 70 [.map (some mb), .bool D.off, arV D.ar ab]]) := hH
 replace hH := hH.close
 replace hH : Hp w w7 _ _ [.grp [.blk b5 37 [.slice Ap p.length cp], .blk b1 25 [Pp db 0], .blk b3 9 [.string (bs nm)], .smap mb (kvE es), filsO es], .grp (armO D.ar ab), .blk db 70 [.map (some mb), .bool D.off, arV D.ar ab]] := hH
 refine Go1 1 24 (.func (.func 110) #[] #[Pp b5 0, Pp b1 0, Pp b3 0]) ?_
 replace hH : Hp w w7 _ _ ([_, _, _] ++ []) := hH.fr2.fr3
 refine gl_st (Sc rfl rfl (DAct_ct (γ := Nat × Value) _ ab _ D D2 cu pt 110 _ (.grp [.blk b5 37 [.slice Ap p.length cp], .blk b1 25 [Pp db 0], .blk b3 9 [.string (bs nm)], .smap mb (kvE es), filsO es]) (fun u => .grp [.blk b5 37 [.slice Ap p.length cp], .blk b1 25 [Pp db 0], .blk b3 9 [.string (bs nm)], .smap mb (kvE (putE es ⟨nm, u.1, u.2, p, p.length⟩)), filsO (putE es ⟨nm, u.1, u.2, p, p.length⟩)]) (off w (blksOf (ownD db mb ab D es))) _ hcut hA hH.mine hH.zoff (by kernel_rfl) (fun w1 hM1 hz1 => PutDo_ct b5 b1 b3 db mb D2.off (arV D2.ar ab) _ es nm p _ w1 hM1 hp hz1 hpl)) ?_)
 rintro _ w9 ⟨x', rfl, hF10, hor⟩
 replace hH := hH.turns hF10
 replace hH := hH.n3
 refine Go1 1 6 (errV (if cu = true then 80 else 0)) <| Dn <| Rt1 rfl rfl ?_
 rcases hor with ⟨hrun, u, rfl⟩ | ⟨hrun, rfl⟩
 ·
  replace hH := hH.fr3
  replace hH : Hp w w9 _ _ (.grp [.blk b5 37 [.slice Ap p.length cp], .blk b1 25 [Pp db 0], .blk b3 9 [.string (bs nm)], .smap mb (kvE (putE es ⟨nm, u.1, u.2, p, p.length⟩)), filsO (putE es ⟨nm, u.1, u.2, p, p.length⟩)] :: [.blk db 70 [.map (some mb), .bool D2.off, arV D2.ar ab], .grp (armO D2.ar ab)]) := hH
  replace hH := hH.open_
  replace hH : Hp w w9 _ _ [.blk b5 37 [.slice Ap p.length cp], .blk b1 25 [Pp db 0], .blk b3 9 [.string (bs nm)], .smap mb (kvE (putE es ⟨nm, u.1, u.2, p, p.length⟩)), filsO (putE es ⟨nm, u.1, u.2, p, p.length⟩), .blk db 70 [.map (some mb), .bool D2.off, arV D2.ar ab], .grp (armO D2.ar ab)] := hH
  replace hH := hH.fr7.fr6.fr6.fr7
  replace hH := (hH.sb (slk (slk (slk (slk sln))))).n4
  exact fin_run (kind := 2) (th := false) (n := 0) rfl hm0 (fun h => absurd h.1 (by decide)) hcut (by decide) hrun (rep_put hR _) ((hH.close (r := [])).turned)
 ·
  replace hH := hH.fr3
  replace hH : Hp w w9 _ _ (.grp [.blk b5 37 [.slice Ap p.length cp], .blk b1 25 [Pp db 0], .blk b3 9 [.string (bs nm)], .smap mb (kvE es), filsO es] :: [.blk db 70 [.map (some mb), .bool D2.off, arV D2.ar ab], .grp (armO D2.ar ab)]) := hH
  replace hH := hH.open_
  replace hH : Hp w w9 _ _ [.blk b5 37 [.slice Ap p.length cp], .blk b1 25 [Pp db 0], .blk b3 9 [.string (bs nm)], .smap mb (kvE es), filsO es, .blk db 70 [.map (some mb), .bool D2.off, arV D2.ar ab], .grp (armO D2.ar ab)] := hH
  replace hH := hH.fr7.fr6.fr6.fr7
  replace hH := (hH.sb (slk (slk (slk (slk sln))))).n4
  exact fin_not (kind := 2) (th := false) (n := 0) hR rfl hm0 (fun h => absurd h.1 (by decide)) hcut (by decide) hrun ((hH.close (r := [])).turned)
 
 have hm00 : mayQ D.off es nm = 0 := by omega
 have hm0 : mayE D nm false = 0 := ff_zero hR (.inl hm00)
 refine Go1 4 21 (.bool false) <| Dn <| Iz <| sw_skip <| sw_next <| sw_sr <| Gq rfl (Lk 2 hH rfl rfl rfl) ?_
 obtain ⟨D2, cu, pt, hcut⟩ : ∃ D2 cu pt, cutD D = (D2, cu, pt) := ⟨_, _, _, rfl⟩
 replace hH := hH.fr7.fr5.fr5.fr6
 replace hH : Hp w w7 _ _ ([.blk b5 37 [.slice Ap p.length cp], .blk b1 25 [Pp db 0], .blk b3 9 [.string (bs nm)], .smap mb (kvE es), filsO es] ++ [.grp (armO D.ar ab), .blk db 70 [.map (some mb), .bool D.off, arV D.ar ab]]) := hH
 replace hH := hH.close
 replace hH : Hp w w7 _ _ [.grp [.blk b5 37 [.slice Ap p.length cp], .blk b1 25 [Pp db 0], .blk b3 9 [.string (bs nm)], .smap mb (kvE es), filsO es], .grp (armO D.ar ab), .blk db 70 [.map (some mb), .bool D.off, arV D.ar ab]] := hH
 refine Go1 1 24 (.func (.func 110) #[] #[Pp b5 0, Pp b1 0, Pp b3 0]) ?_
 replace hH : Hp w w7 _ _ ([_, _, _] ++ []) := hH.fr2.fr3
 refine gl_st (Sc rfl rfl (DAct_ct (γ := Nat × Value) _ ab _ D D2 cu pt 110 _ (.grp [.blk b5 37 [.slice Ap p.length cp], .blk b1 25 [Pp db 0], .blk b3 9 [.string (bs nm)], .smap mb (kvE es), filsO es]) (fun u => .grp [.blk b5 37 [.slice Ap p.length cp], .blk b1 25 [Pp db 0], .blk b3 9 [.string (bs nm)], .smap mb (kvE (putE es ⟨nm, u.1, u.2, p, p.length⟩)), filsO (putE es ⟨nm, u.1, u.2, p, p.length⟩)]) (off w (blksOf (ownD db mb ab D es))) _ hcut hA hH.mine hH.zoff (by kernel_rfl) (fun w1 hM1 hz1 => PutDo_ct b5 b1 b3 db mb D2.off (arV D2.ar ab) _ es nm p _ w1 hM1 hp hz1 hpl)) ?_)
 rintro _ w11 ⟨x', rfl, hF12, hor⟩
 replace hH := hH.turns hF12
 replace hH := hH.n3
 refine Go1 1 6 (errV (if cu = true then 80 else 0)) <| Dn <| Rt1 rfl rfl ?_
 rcases hor with ⟨hrun, u, rfl⟩ | ⟨hrun, rfl⟩
 ·
  replace hH := hH.fr3
  replace hH : Hp w w11 _ _ (.grp [.blk b5 37 [.slice Ap p.length cp], .blk b1 25 [Pp db 0], .blk b3 9 [.string (bs nm)], .smap mb (kvE (putE es ⟨nm, u.1, u.2, p, p.length⟩)), filsO (putE es ⟨nm, u.1, u.2, p, p.length⟩)] :: [.blk db 70 [.map (some mb), .bool D2.off, arV D2.ar ab], .grp (armO D2.ar ab)]) := hH
  replace hH := hH.open_
  replace hH : Hp w w11 _ _ [.blk b5 37 [.slice Ap p.length cp], .blk b1 25 [Pp db 0], .blk b3 9 [.string (bs nm)], .smap mb (kvE (putE es ⟨nm, u.1, u.2, p, p.length⟩)), filsO (putE es ⟨nm, u.1, u.2, p, p.length⟩), .blk db 70 [.map (some mb), .bool D2.off, arV D2.ar ab], .grp (armO D2.ar ab)] := hH
  replace hH := hH.fr7.fr6.fr6.fr7
  replace hH := (hH.sb (slk (slk (slk (slk sln))))).n4
  exact fin_run (kind := 2) (th := false) (n := 0) rfl hm0 (fun h => absurd h.1 (by decide)) hcut (by decide) hrun (rep_put hR _) ((hH.close (r := [])).turned)
 ·
  replace hH := hH.fr3
  replace hH : Hp w w11 _ _ (.grp [.blk b5 37 [.slice Ap p.length cp], .blk b1 25 [Pp db 0], .blk b3 9 [.string (bs nm)], .smap mb (kvE es), filsO es] :: [.blk db 70 [.map (some mb), .bool D2.off, arV D2.ar ab], .grp (armO D2.ar ab)]) := hH
  replace hH := hH.open_
  replace hH : Hp w w11 _ _ [.blk b5 37 [.slice Ap p.length cp], .blk b1 25 [Pp db 0], .blk b3 9 [.string (bs nm)], .smap mb (kvE es), filsO es, .blk db 70 [.map (some mb), .bool D2.off, arV D2.ar ab], .grp (armO D2.ar ab)] := hH
  replace hH := hH.fr7.fr6.fr6.fr7
  replace hH := (hH.sb (slk (slk (slk (slk sln))))).n4
  exact fin_not (kind := 2) (th := false) (n := 0) hR rfl hm0 (fun h => absurd h.1 (by decide)) hcut (by decide) hrun ((hH.close (r := [])).turned)
 
theorem Remove_ct (db mb ab : Nat) (D : Dsk) (es : List PE) (nm : List UInt8) (M : Nat) (w : World) (hM : Mine w (ownD db mb ab D es)) (hR : Rep es D.fs) (hA : ArOk D.ar) (hG : Good D.fs M) (hMM : M ≤ 140737488355328) (hs : nm.length ≤ 140737488355328) :
    Fun Tryz.prog 44 [.pointer (some ⟨db, 0, none⟩), .string (bs nm)] w fun v w' => ActPost db mb ab D es (doD D 4 nm [] 0) w v w' := by
 refine fun_of_sw Tryz.func44 rfl 19 rfl rfl ?_
 have hH : Hp w w (off w (blksOf (ownD db mb ab D es))) (blksOf (ownD db mb ab D es)) (dskO db mb ab D es ++ []) := (Hp.start_mine hM).open_
 replace hH : Hp w w _ _ [.blk db 70 [.map (some mb), .bool D.off, arV D.ar ab], .smap mb (kvE es), filsO es, .grp (armO D.ar ab)] := hH
 refine sw_sr <| gl_st (Bx [Pp db 0] rfl hH ?_)
 clear hH; intro b1 w2 hH
 refine gl_st (Bx [.string (bs nm)] rfl hH ?_)
 clear hH; intro b3 w4 hH
 refine Go0 1 <| Dn <| sw_seq <| sw_sr <| Gq rfl (Lk 4 hH rfl rfl rfl) <| Gq rfl (Lk 5 hH rfl rfl rfl) ?_
 replace hH : Hp w w4 _ _ ([_, _] ++ [_, _, _, _]) := hH
 refine gl_st (Sc rfl rfl (At_ct _ _ _ _ es nm _ hs hH.mine) ?_)
 rintro _ w5 ⟨rfl, hF6⟩
 replace hH := hH.turns hF6
 replace hH := hH.n6
 refine Go1 5 6 (errV (mayQ D.off es nm)) <| Dn <| sw_sr <| Go1 1 13 (errV (mayQ D.off es nm)) <| Gq rfl (rd_err_ne (by kernel_rfl) rfl) <| Dn <| If rfl (fun hc1 => ?_) (fun hc1 => ?_)
 refine sw_sr <| Go1 2 4 (errV (mayQ D.off es nm)) <| Dn <| Rt1 rfl rfl ?_
 replace hH := hH.fr2.fr2.fr6.fr6
 replace hH := (hH.sb (slk (slk (slk (slk sln))))).n4
 exact fin_err (kind := 4) (th := true) hR rfl _ (mayP_eq hR nm) (by omega) ((hH.close (r := [])).turned)
 have hm0 : mayE D nm true = 0 := by rw [mayP_eq hR]; omega
 obtain ⟨fb, fv, b, sr, he, hat, hlt⟩ := at_zero (show mayQ D.off es nm = 0 by omega)
 have hold := old_of hR he
 refine Sk <| sw_sr <| Gq rfl (Lk 2 hH rfl rfl rfl) ?_
 obtain ⟨D2, cu, pt, hcut⟩ : ∃ D2 cu pt, cutD D = (D2, cu, pt) := ⟨_, _, _, rfl⟩
 replace hH := hH.fr6.fr5.fr5
 replace hH : Hp w w5 _ _ ([.blk b1 25 [Pp db 0], .blk b3 9 [.string (bs nm)], .smap mb (kvE es), filsO es] ++ [.grp (armO D.ar ab), .blk db 70 [.map (some mb), .bool D.off, arV D.ar ab]]) := hH
 replace hH := hH.close
 replace hH : Hp w w5 _ _ [.grp [.blk b1 25 [Pp db 0], .blk b3 9 [.string (bs nm)], .smap mb (kvE es), filsO es], .grp (armO D.ar ab), .blk db 70 [.map (some mb), .bool D.off, arV D.ar ab]] := hH
 refine Go1 1 17 (.func (.func 76) #[] #[Pp b1 0, Pp b3 0]) ?_
 replace hH : Hp w w5 _ _ ([_, _, _] ++ []) := hH.fr2.fr3
 refine gl_st (Sc rfl rfl (DAct_ct (γ := Unit) _ ab _ D D2 cu pt 76 _ (.grp [.blk b1 25 [Pp db 0], .blk b3 9 [.string (bs nm)], .smap mb (kvE es), filsO es]) (fun u => .grp [.blk b1 25 [Pp db 0], .blk b3 9 [.string (bs nm)], .smap mb (kvE (es.eraseIdx (ixE es nm))), filsO (es.eraseIdx (ixE es nm))]) (fun _ => none) _ hcut hA hH.mine (fun _ _ h => by cases h) (by kernel_rfl) (fun w1 hM1 _ => RemDo_ct b1 b3 db mb D2.off (arV D2.ar ab) es nm w1 hM1 hlt)) ?_)
 rintro _ w7 ⟨x', rfl, hF8, hor⟩
 replace hH := hH.turns hF8
 replace hH := hH.n3
 refine Go1 1 4 (errV (if cu = true then 80 else 0)) <| Dn <| Rt1 rfl rfl ?_
 rcases hor with ⟨hrun, u, rfl⟩ | ⟨hrun, rfl⟩
 ·
  replace hH := hH.fr3
  replace hH : Hp w w7 _ _ (.grp [.blk b1 25 [Pp db 0], .blk b3 9 [.string (bs nm)], .smap mb (kvE (es.eraseIdx (ixE es nm))), filsO (es.eraseIdx (ixE es nm))] :: [.blk db 70 [.map (some mb), .bool D2.off, arV D2.ar ab], .grp (armO D2.ar ab)]) := hH
  replace hH := hH.open_
  replace hH : Hp w w7 _ _ [.blk b1 25 [Pp db 0], .blk b3 9 [.string (bs nm)], .smap mb (kvE (es.eraseIdx (ixE es nm))), filsO (es.eraseIdx (ixE es nm)), .blk db 70 [.map (some mb), .bool D2.off, arV D2.ar ab], .grp (armO D2.ar ab)] := hH
  replace hH := hH.fr6.fr5.fr5.fr6
  replace hH := (hH.sb (slk (slk (slk (slk sln))))).n4
  exact fin_run (kind := 4) (th := true) (n := 0) rfl hm0 (fun h => absurd h.1 (by decide)) hcut (by decide) hrun (rep_del hR nm) ((hH.close (r := [])).turned)
 ·
  replace hH := hH.fr3
  replace hH : Hp w w7 _ _ (.grp [.blk b1 25 [Pp db 0], .blk b3 9 [.string (bs nm)], .smap mb (kvE es), filsO es] :: [.blk db 70 [.map (some mb), .bool D2.off, arV D2.ar ab], .grp (armO D2.ar ab)]) := hH
  replace hH := hH.open_
  replace hH : Hp w w7 _ _ [.blk b1 25 [Pp db 0], .blk b3 9 [.string (bs nm)], .smap mb (kvE es), filsO es, .blk db 70 [.map (some mb), .bool D2.off, arV D2.ar ab], .grp (armO D2.ar ab)] := hH
  replace hH := hH.fr6.fr5.fr5.fr6
  replace hH := (hH.sb (slk (slk (slk (slk sln))))).n4
  exact fin_not (kind := 4) (th := true) (n := 0) hR rfl hm0 (fun h => absurd h.1 (by decide)) hcut (by decide) hrun ((hH.close (r := [])).turned)
 
end Go.Proofs.YtajapgjemefoiaaGreatDoor
/- Layer 18 (disk), the program's: Sync, Cut, Append: what they answer. -/
set_option maxRecDepth 100000
set_option maxHeartbeats 4000000
set_option linter.unusedVariables false
set_option linter.unusedSimpArgs false
namespace Go.Proofs.YtajapgjemefoiaaGreatDoor
open Go.RowKit Go.SW

theorem Sync_ct (db mb ab : Nat) (D : Dsk) (es : List PE) (nm : List UInt8) (M : Nat) (w : World) (hM : Mine w (ownD db mb ab D es)) (hR : Rep es D.fs) (hA : ArOk D.ar) (hG : Good D.fs M) (hMM : M ≤ 140737488355328) (hs : nm.length ≤ 140737488355328) :
    Fun Tryz.prog 47 [.pointer (some ⟨db, 0, none⟩), .string (bs nm)] w fun v w' => ActPost db mb ab D es (doD D 1 nm [] 0) w v w' := by
 refine fun_of_sw Tryz.func47 rfl 19 rfl rfl ?_
 have hH : Hp w w (off w (blksOf (ownD db mb ab D es))) (blksOf (ownD db mb ab D es)) (dskO db mb ab D es ++ []) := (Hp.start_mine hM).open_
 replace hH : Hp w w _ _ [.blk db 70 [.map (some mb), .bool D.off, arV D.ar ab], .smap mb (kvE es), filsO es, .grp (armO D.ar ab)] := hH
 refine sw_sr <| Go0 1 <| Dn <| sw_sr <| Go2 2 8 (Pp db 0) 9 (.string (bs nm)) ?_
 replace hH : Hp w w _ _ ([_, _] ++ [_, _]) := hH
 refine gl_st (Sc rfl rfl (At_ct _ _ _ _ es nm _ hs hH.mine) ?_)
 rintro _ w1 ⟨rfl, hF2⟩
 replace hH := hH.turns hF2
 replace hH := hH.n4
 refine Go2 3 11 (atV D.off es nm) 12 (errV (mayQ D.off es nm)) <| gl_st (Alc [.pointer none] rfl hH ?_)
 clear hH; intro b3 w4 hH
 refine gl_st (Ks 4 (atV D.off es nm) rfl hH rfl rfl (hv := (atV_one D.off es nm)) ?_)
 clear hH; intro w5 hH
 refine Go1 1 6 (errV (mayQ D.off es nm)) <| Dn <| sw_seq <| sw_sr <| Go1 1 13 (errV (mayQ D.off es nm)) <| Gq rfl (rd_err_ne (by kernel_rfl) rfl) <| Dn <| If rfl (fun hc1 => ?_) (fun hc1 => ?_)
 refine sw_sr <| Go1 2 4 (errV (mayQ D.off es nm)) <| Dn <| Rt1 rfl rfl ?_
 replace hH := hH.fr2.fr2.fr4.fr4
 replace hH := (hH.sb (slk (slk (slk (slk sln))))).n4
 exact fin_err (kind := 1) (th := true) hR rfl _ (mayP_eq hR nm) (by omega) ((hH.close (r := [])).turned)
 have hm0 : mayE D nm true = 0 := by rw [mayP_eq hR]; omega
 obtain ⟨fb, fv, b, sr, he, hat, hlt⟩ := at_zero (show mayQ D.off es nm = 0 by omega)
 have hold := old_of hR he
 replace hH := hH.cast (os' := [filsO es, .grp (armO D.ar ab), .blk db 70 [.map (some mb), .bool D.off, arV D.ar ab], .smap mb (kvE es), .blk b3 73 [Pp fb 0]]) (by first | (rw [hat]; done) | (rw [hat]; rfl))
 refine Sk <| sw_sr ?_
 obtain ⟨D2, cu, pt, hcut⟩ : ∃ D2 cu pt, cutD D = (D2, cu, pt) := ⟨_, _, _, rfl⟩
 replace hH := hH.fr5
 replace hH : Hp w w5 _ _ ([.blk b3 73 [Pp fb 0], filsO es] ++ [.grp (armO D.ar ab), .blk db 70 [.map (some mb), .bool D.off, arV D.ar ab], .smap mb (kvE es)]) := hH
 replace hH := hH.close
 replace hH : Hp w w5 _ _ [.grp [.blk b3 73 [Pp fb 0], filsO es], .grp (armO D.ar ab), .blk db 70 [.map (some mb), .bool D.off, arV D.ar ab], .smap mb (kvE es)] := hH
 refine Go2 2 16 (Pp db 0) 17 (.func (.func 79) #[] #[Pp b3 0]) ?_
 replace hH : Hp w w5 _ _ ([_, _, _] ++ [_]) := hH.fr2.fr3
 refine gl_st (Sc rfl rfl (DAct_ct (γ := Unit) _ ab _ D D2 cu pt 79 _ (.grp [.blk b3 73 [Pp fb 0], filsO es]) (fun u => .grp [.blk b3 73 [Pp fb 0], filsO (es.set (ixE es nm) ⟨nm, fb, fv, b, b.length⟩)]) (fun _ => none) _ hcut hA hH.mine (fun _ _ h => by cases h) (by kernel_rfl) (fun w1 hM1 _ => SyncDo_ct b3 es _ nm fb fv b sr he _ w1 hM1)) ?_)
 rintro _ w6 ⟨x', rfl, hF7, hor⟩
 replace hH := hH.turns hF7
 replace hH := hH.n4
 refine Go1 1 4 (errV (if cu = true then 80 else 0)) <| Dn <| Rt1 rfl rfl ?_
 rcases hor with ⟨hrun, u, rfl⟩ | ⟨hrun, rfl⟩
 ·
  replace hH := hH.fr4
  replace hH : Hp w w6 _ _ (.grp [.blk b3 73 [Pp fb 0], filsO (es.set (ixE es nm) ⟨nm, fb, fv, b, b.length⟩)] :: [.smap mb (kvE es), .blk db 70 [.map (some mb), .bool D2.off, arV D2.ar ab], .grp (armO D2.ar ab)]) := hH
  replace hH := hH.open_
  replace hH : Hp w w6 _ _ [.blk b3 73 [Pp fb 0], filsO (es.set (ixE es nm) ⟨nm, fb, fv, b, b.length⟩), .smap mb (kvE es), .blk db 70 [.map (some mb), .bool D2.off, arV D2.ar ab], .grp (armO D2.ar ab)] := hH
  have hkv : kvE es = kvE (es.set (ixE es nm) ⟨nm, fb, fv, b, b.length⟩) := (kvE_set (e' := ⟨nm, fb, fv, b, b.length⟩) he rfl rfl).symm
  replace hH := hH.cast (os' := [.blk b3 73 [Pp fb 0], filsO (es.set (ixE es nm) ⟨nm, fb, fv, b, b.length⟩), .smap mb (kvE (es.set (ixE es nm) ⟨nm, fb, fv, b, b.length⟩)), .blk db 70 [.map (some mb), .bool D2.off, arV D2.ar ab], .grp (armO D2.ar ab)]) (by rw [← hkv])
  replace hH := hH.fr5.fr3.fr4.fr5
  replace hH := (hH.sb (slk (slk (slk (slk sln))))).n4
  exact fin_run (kind := 1) (th := true) (n := 0) rfl hm0 (fun h => absurd h.1 (by decide)) hcut (by decide) hrun (by unfold doF; rw [hold]; exact rep_set hR he _ rfl) ((hH.close (r := [])).turned)
 ·
  replace hH := hH.fr4
  replace hH : Hp w w6 _ _ (.grp [.blk b3 73 [Pp fb 0], filsO es] :: [.smap mb (kvE es), .blk db 70 [.map (some mb), .bool D2.off, arV D2.ar ab], .grp (armO D2.ar ab)]) := hH
  replace hH := hH.open_
  replace hH : Hp w w6 _ _ [.blk b3 73 [Pp fb 0], filsO es, .smap mb (kvE es), .blk db 70 [.map (some mb), .bool D2.off, arV D2.ar ab], .grp (armO D2.ar ab)] := hH
  replace hH := hH.fr5.fr3.fr4.fr5
  replace hH := (hH.sb (slk (slk (slk (slk sln))))).n4
  exact fin_not (kind := 1) (th := true) (n := 0) hR rfl hm0 (fun h => absurd h.1 (by decide)) hcut (by decide) hrun ((hH.close (r := [])).turned)
 
theorem CutAct_ct (db mb ab : Nat) (D : Dsk) (es : List PE) (nm : List UInt8) (n : Int) (M : Nat) (w : World) (hM : Mine w (ownD db mb ab D es)) (hR : Rep es D.fs) (hA : ArOk D.ar) (hG : Good D.fs M) (hMM : M ≤ 140737488355328) (hs : nm.length ≤ 140737488355328) :
    Fun Tryz.prog 46 [.pointer (some ⟨db, 0, none⟩), .string (bs nm), .int .i64 n] w fun v w' => ActPost db mb ab D es (doD D 3 nm [] n) w v w' := by
 refine fun_of_sw Tryz.func46 rfl 33 rfl rfl ?_
 have hH : Hp w w (off w (blksOf (ownD db mb ab D es))) (blksOf (ownD db mb ab D es)) (dskO db mb ab D es ++ []) := (Hp.start_mine hM).open_
 replace hH : Hp w w _ _ [.blk db 70 [.map (some mb), .bool D.off, arV D.ar ab], .smap mb (kvE es), filsO es, .grp (armO D.ar ab)] := hH
 refine sw_sr <| gl_st (Bx [.int .i64 n] rfl hH ?_)
 clear hH; intro b1 w2 hH
 refine Go0 1 <| Dn <| sw_sr <| Go2 2 10 (Pp db 0) 11 (.string (bs nm)) ?_
 replace hH : Hp w w2 _ _ ([_, _] ++ [_, _, _]) := hH
 refine gl_st (Sc rfl rfl (At_ct _ _ _ _ es nm _ hs hH.mine) ?_)
 rintro _ w3 ⟨rfl, hF4⟩
 replace hH := hH.turns hF4
 replace hH := hH.n5
 refine Go2 3 13 (atV D.off es nm) 14 (errV (mayQ D.off es nm)) <| gl_st (Alc [.pointer none] rfl hH ?_)
 clear hH; intro b5 w6 hH
 refine gl_st (Ks 5 (atV D.off es nm) rfl hH rfl rfl (hv := (atV_one D.off es nm)) ?_)
 clear hH; intro w7 hH
 refine Go1 1 8 (errV (mayQ D.off es nm)) <| Dn <| sw_seq <| sw_block <| sw_sr <| Go1 1 16 (errV (mayQ D.off es nm)) <| Gq rfl (rd_err_ne (by kernel_rfl) rfl) <| Go1 1 15 (.bool ((mayQ D.off es nm) != 0)) <| Dn <| sw_cond rfl rfl (fun hc1 => ?_) (fun hc1 => ?_)
 refine sw_cv 15 (.bool true) (by rw [hc1]) rfl ?_
 try simp only [bne_iff_ne, ne_eq] at hc1
 refine sw_sr <| Go1 2 6 (errV (mayQ D.off es nm)) <| Dn <| Rt1 rfl rfl ?_
 replace hH := hH.fr2.fr2.fr5.fr5
 replace hH := (hH.sb (slk (slk (slk (slk sln))))).n4
 exact fin_err (kind := 3) (th := true) hR rfl _ (mayP_eq hR nm) (by omega) ((hH.close (r := [])).turned)
 refine sw_cv 15 (.bool false) (by rw [hc1]) rfl ?_
 try simp only [bne_eq_false_iff_eq] at hc1
 have hm0 : mayE D nm true = 0 := by rw [mayP_eq hR]; omega
 obtain ⟨fb, fv, b, sr, he, hat, hlt⟩ := at_zero (show mayQ D.off es nm = 0 by omega)
 have hold := old_of hR he
 replace hH := hH.cast (os' := [filsO es, .grp (armO D.ar ab), .blk b1 3 [.int .i64 n], .blk db 70 [.map (some mb), .bool D.off, arV D.ar ab], .smap mb (kvE es), .blk b5 73 [Pp fb 0]]) (by first | (rw [hat]; done) | (rw [hat]; rfl))
 refine sw_seq <| sw_sr <| Gq rfl (Lk 2 hH rfl rfl rfl) <| Go1 2 19 (.bool (decide ((n : Int) < (0 : Int)))) <| Dn <| sw_cond rfl rfl (fun hc2 => ?_) (fun hc2 => ?_)
 refine sw_cv 19 (.bool true) (by rw [hc2]) rfl ?_
 try simp only [decide_eq_true_eq] at hc2
 refine Sk <| It <| sw_sr <| Go1 2 6 (.iface 38 (.int .i64 1)) <| Dn <| Rt1 rfl rfl ?_
 replace hH := hH.fr2.fr2.fr5.fr5
 replace hH := (hH.sb (slk (slk (slk (slk sln))))).n4
 exact fin_arg hR hm0 (.inl (by omega)) ((hH.close (r := [])).turned)
 refine sw_cv 19 (.bool false) (by rw [hc2]) rfl ?_
 try simp only [decide_eq_false_iff_not, Int.not_lt, Int.not_le] at hc2
 obtain ⟨k, rfl⟩ : ∃ k : Nat, n = k := ⟨n.toNat, by omega⟩
 obtain ⟨Af, cf, rfl, hf1, hf2⟩ := (fil_rb hH 0 rfl he).row.form
 refine Dr hH (slk (slk (slk (slk (slk (slk sln)))))) ?_
 clear hH; intro w8 hH hS9
 refine Dq 0 rfl (fun _ hS => (Lk 2 hS rfl rfl rfl)) hS9 <| Dq 1 rfl (fun _ hS => (Lk 5 hS rfl rfl rfl)) hS9 <| Gp1 2 [2,3] 25 (Pp fb 0) hS9 <| Dq 4 rfl (fun _ hS => (rd_load (by kernel_rfl) rfl (fil_cell0 hS 0 rfl he))) hS9 <| gdk [(0, Pp db 0), (5, Pp b1 0), (7, Pp b5 0), (19, .bool false), (22, Ni k), (26, .slice Af b.length cf)] <| Dq 5 rfl (fun _ hS => (Ln (e := 5) rfl)) hS9 <| Gp1 2 [6,7] 19 (.bool (decide ((k : Int) > ((b.length : Nat) : Int)))) hS9 <| gdn [(0, Pp db 0), (5, Pp b1 0), (7, Pp b5 0), (19, .bool (decide ((k : Int) > ((b.length : Nat) : Int))))] <| sw_next <| sw_cond rfl rfl (fun hc4 => ?_) (fun hc4 => ?_)
 refine sw_cv 19 (.bool true) (by rw [hc4]) rfl ?_
 try simp only [decide_eq_true_eq] at hc4
 refine sw_sr <| Go1 2 6 (.iface 38 (.int .i64 1)) <| Dn <| Rt1 rfl rfl ?_
 replace hH := hH.fr2.fr2.fr5.fr5
 replace hH := (hH.sb (slk (slk (slk (slk sln))))).n4
 exact fin_arg hR hm0 (.inr (by rw [hold]; simp only; omega)) ((hH.close (r := [])).turned)
 refine sw_cv 19 (.bool false) (by rw [hc4]) rfl ?_
 try simp only [decide_eq_false_iff_not, Int.not_lt, Int.not_le] at hc4
 refine sw_skip <| bkN <| sw_next <| sw_sr ?_
 obtain ⟨D2, cu, pt, hcut⟩ : ∃ D2 cu pt, cutD D = (D2, cu, pt) := ⟨_, _, _, rfl⟩
 replace hH := hH.fr3.fr6
 replace hH : Hp w w8 _ _ ([.blk b5 73 [Pp fb 0], .blk b1 3 [Ni k], filsO es] ++ [.grp (armO D.ar ab), .blk db 70 [.map (some mb), .bool D.off, arV D.ar ab], .smap mb (kvE es)]) := hH
 replace hH := hH.close
 replace hH : Hp w w8 _ _ [.grp [.blk b5 73 [Pp fb 0], .blk b1 3 [Ni k], filsO es], .grp (armO D.ar ab), .blk db 70 [.map (some mb), .bool D.off, arV D.ar ab], .smap mb (kvE es)] := hH
 refine Go2 2 30 (Pp db 0) 31 (.func (.func 78) #[] #[Pp b5 0, Pp b1 0]) ?_
 replace hH : Hp w w8 _ _ ([_, _, _] ++ [_]) := hH.fr2.fr3
 refine gl_st (Sc rfl rfl (DAct_ct (γ := Unit) _ ab _ D D2 cu pt 78 _ (.grp [.blk b5 73 [Pp fb 0], .blk b1 3 [Ni k], filsO es]) (fun u => .grp [.blk b5 73 [Pp fb 0], .blk b1 3 [Ni k], filsO (es.set (ixE es nm) ⟨nm, fb, .slice (sliceA (.slice Af b.length cf)) k k, b.take k, min sr k⟩)]) (fun _ => none) _ hcut hA hH.mine (fun _ _ h => by cases h) (by kernel_rfl) (fun w1 hM1 _ => CutDo_ct b5 b1 k es _ nm fb _ b sr he _ w1 hM1 (by omega))) ?_)
 rintro _ w9 ⟨x', rfl, hF10, hor⟩
 replace hH := hH.turns hF10
 replace hH := hH.n4
 refine Go1 1 6 (errV (if cu = true then 80 else 0)) <| Dn <| Rt1 rfl rfl ?_
 rcases hor with ⟨hrun, u, rfl⟩ | ⟨hrun, rfl⟩
 ·
  replace hH := hH.fr4
  replace hH : Hp w w9 _ _ (.grp [.blk b5 73 [Pp fb 0], .blk b1 3 [Ni k], filsO (es.set (ixE es nm) ⟨nm, fb, .slice (sliceA (.slice Af b.length cf)) k k, b.take k, min sr k⟩)] :: [.smap mb (kvE es), .blk db 70 [.map (some mb), .bool D2.off, arV D2.ar ab], .grp (armO D2.ar ab)]) := hH
  replace hH := hH.open_
  replace hH : Hp w w9 _ _ [.blk b5 73 [Pp fb 0], .blk b1 3 [Ni k], filsO (es.set (ixE es nm) ⟨nm, fb, .slice (sliceA (.slice Af b.length cf)) k k, b.take k, min sr k⟩), .smap mb (kvE es), .blk db 70 [.map (some mb), .bool D2.off, arV D2.ar ab], .grp (armO D2.ar ab)] := hH
  have hkv : kvE es = kvE (es.set (ixE es nm) ⟨nm, fb, .slice (sliceA (.slice Af b.length cf)) k k, b.take k, min sr k⟩) := (kvE_set (e' := ⟨nm, fb, .slice (sliceA (.slice Af b.length cf)) k k, b.take k, min sr k⟩) he rfl rfl).symm
  replace hH := hH.cast (os' := [.blk b5 73 [Pp fb 0], .blk b1 3 [Ni k], filsO (es.set (ixE es nm) ⟨nm, fb, .slice (sliceA (.slice Af b.length cf)) k k, b.take k, min sr k⟩), .smap mb (kvE (es.set (ixE es nm) ⟨nm, fb, .slice (sliceA (.slice Af b.length cf)) k k, b.take k, min sr k⟩)), .blk db 70 [.map (some mb), .bool D2.off, arV D2.ar ab], .grp (armO D2.ar ab)]) (by rw [← hkv])
  replace hH := hH.fr6.fr4.fr5.fr6
  replace hH := (hH.sb (slk (slk (slk (slk sln))))).n4
  exact fin_run (kind := 3) (th := true) (n := ((k : Nat) : Int)) rfl hm0 (fun h => by have h3 := h.2; rw [hold] at h3; simp only at h3; omega) hcut (by decide) hrun (by unfold doF; rw [hold, Int.toNat_natCast]; exact rep_set hR he _ rfl) ((hH.close (r := [])).turned)
 ·
  replace hH := hH.fr4
  replace hH : Hp w w9 _ _ (.grp [.blk b5 73 [Pp fb 0], .blk b1 3 [Ni k], filsO es] :: [.smap mb (kvE es), .blk db 70 [.map (some mb), .bool D2.off, arV D2.ar ab], .grp (armO D2.ar ab)]) := hH
  replace hH := hH.open_
  replace hH : Hp w w9 _ _ [.blk b5 73 [Pp fb 0], .blk b1 3 [Ni k], filsO es, .smap mb (kvE es), .blk db 70 [.map (some mb), .bool D2.off, arV D2.ar ab], .grp (armO D2.ar ab)] := hH
  replace hH := hH.fr6.fr4.fr5.fr6
  replace hH := (hH.sb (slk (slk (slk (slk sln))))).n4
  exact fin_not (kind := 3) (th := true) (n := ((k : Nat) : Int)) hR rfl hm0 (fun h => by have h3 := h.2; rw [hold] at h3; simp only at h3; omega) hcut (by decide) hrun ((hH.close (r := [])).turned)
 
theorem Append_ct (db mb ab : Nat) (D : Dsk) (es : List PE) (nm : List UInt8) (vp : Value) (p : List UInt8) (M : Nat) (w : World) (hM : Mine w (ownD db mb ab D es)) (hR : Rep es D.fs) (hA : ArOk D.ar) (hG : Good D.fs M) (hMM : M ≤ 140737488355328) (hs : nm.length ≤ 140737488355328) (hp : RB (off w (blksOf (ownD db mb ab D es))) vp p) (hpl : p.length ≤ 1073741824) (hMA : M ≤ 4294967296) :
    Fun Tryz.prog 10 [.pointer (some ⟨db, 0, none⟩), .string (bs nm), vp] w fun v w' => ActPost db mb ab D es (doD D 0 nm p 0) w v w' := by
 obtain ⟨Ap, cp, rfl, hp1, hp2⟩ := hp.row.form
 refine fun_of_sw Tryz.func10 rfl 59 rfl rfl ?_
 have hH : Hp w w (off w (blksOf (ownD db mb ab D es))) (blksOf (ownD db mb ab D es)) (dskO db mb ab D es ++ []) := (Hp.start_mine hM).open_
 replace hH : Hp w w _ _ [.blk db 70 [.map (some mb), .bool D.off, arV D.ar ab], .smap mb (kvE es), filsO es, .grp (armO D.ar ab)] := hH
 refine sw_sr <| Go0 1 <| Dn <| sw_sr <| Go2 2 12 (Pp db 0) 13 (.string (bs nm)) ?_
 replace hH : Hp w w _ _ ([_, _] ++ [_, _]) := hH
 refine gl_st (Sc rfl rfl (At_ct _ _ _ _ es nm _ hs hH.mine) ?_)
 rintro _ w1 ⟨rfl, hF2⟩
 replace hH := hH.turns hF2
 replace hH := hH.n4
 refine Go2 5 7 (atV D.off es nm) 8 (errV (mayQ D.off es nm)) <| Dn <| sw_seq <| sw_sr <| Go1 1 17 (errV (mayQ D.off es nm)) <| Gq rfl (rd_err_ne (by kernel_rfl) rfl) <| Go1 1 19 (.bool ((mayQ D.off es nm) != 0)) <| Gi 19 rfl (fun hg1 => ?_) (fun hg1 => ?_)
 refine Go1 1 20 (errV (mayQ D.off es nm)) <| gl_cv 20 (.iface 38 (Ni (mayQ D.off es nm))) (errV_if (by omega)) rfl <| Go1 1 21 (.iface 38 (.int .i64 81)) <| Gq rfl (rd_ifi_ne (k0 := .i64) (by kernel_rfl) (by kernel_rfl) (by kernel_rfl) rfl rfl) <| Go1 1 23 (.bool ((((mayQ D.off es nm : Nat) : Int) : Int) != 81)) <| Dn <| sw_cond rfl rfl (fun hc2 => ?_) (fun hc2 => ?_)
 refine sw_cv 23 (.bool true) (by rw [hc2]) rfl ?_
 try simp only [bne_iff_ne, ne_eq] at hc2
 refine sw_sr <| Go1 2 6 (errV (mayQ D.off es nm)) <| Dn <| Rt1 rfl rfl ?_
 replace hH := hH.fr2.fr2.fr4.fr4
 replace hH := (hH.sb (slk (slk (slk (slk sln))))).n4
 exact fin_err (kind := 0) (th := false) hR rfl _ (ff_err hR (by omega)) (by omega) ((hH.close (r := [])).turned)
 refine sw_cv 23 (.bool false) (by rw [hc2]) rfl ?_
 try simp only [bne_eq_false_iff_eq] at hc2
 have hm81 : mayQ D.off es nm = 81 := by omega
 have hm0 : mayE D nm false = 0 := ff_zero hR (.inr hm81)
 have hnot := at_81 hm81
 have hold := old_none hR hnot
 refine sw_cv 7 (.pointer none) (at_n0 (by omega)) rfl <| sw_skip <| sw_next <| sw_sr ?_
 obtain ⟨D2, cu, pt, hcut⟩ : ∃ D2 cu pt, cutD D = (D2, cu, pt) := ⟨_, _, _, rfl⟩
 refine Go1 1 26 (Pp db 0) ?_
 replace hH : Hp w w1 _ _ ([_, _] ++ [_, _]) := hH.fr2.fr3
 refine gl_st (Sc rfl rfl (Cut_ct _ ab _ D D2 cu pt _ hcut hA hH.mine) ?_)
 rintro _ w3 ⟨rfl, hF4⟩
 replace hH := hH.turns hF4
 replace hH := hH.n4
 refine Go2 5 9 (.int .i64 pt) 10 (.bool cu) <| Dn <| sw_seq <| sw_sr <| Go1 1 30 (.bool cu) <| Dn <| sw_cond rfl rfl (fun hc3 => ?_) (fun hc3 => ?_)
 refine sw_cv 10 (.bool true) (by rw [hc3]) rfl <| sw_cv 30 (.bool true) (by rw [hc3]) rfl ?_
 subst hc3
 refine sw_region <| Go3 3 31 (.slice Ap p.length cp) 32 (.int .i64 pt) 33 (.slice Ap p.length cp) <| Gq rfl (Ln (e := 5) rfl) <| Gw0 1 35 (((p.length : Nat) : Int) + 1) ((p.length + 1 : Nat) : Int) <| gl_st (Sc rfl rfl (Modulo_ct pt (p.length + 1) _ (by omega) (by omega)) ?_)
 rintro _ w5 ⟨rfl, hF6⟩
 replace hH := hH.call hF6
 have hmod := modI_lt pt (show 0 < p.length + 1 by omega)
 obtain ⟨A7, hk8, hv9⟩ := hp.row.cut (by decide) 0 (modI pt (p.length + 1)) (by omega) (by omega)
 refine Gq rfl (rd_cut (e := 5) (m := 1) (by kernel_rfl) (by kernel_rfl) rfl (.inl ⟨rfl, rfl⟩) (.inr ⟨_, _, rfl, rfl⟩) hk8) ?_
 have hr10 := RB.head hv9 (by omega)
 refine Go1 1 2 (.slice A7 ((modI pt (p.length + 1)) - 0) (cp - 0)) <| Dd <| sw_next <| sw_seq <| sw_sr <| Go1 2 39 (.bool true) <| Dn <| It <| sw_sr <| glo 1 [(0, Pp db 0), (1, .string (bs nm)), (2, .slice A7 ((modI pt (p.length + 1)) - 0) (cp - 0)), (10, .bool true), (40, .agg #[.slice none 0 0, .int .i64 0])] <| gl_st (Bx [.slice none 0 0, .int .i64 0] rfl hH ?_)
 clear hH; intro b11 w12 hH
 refine Go1 1 7 (Pp b11 0) <| Dn <| sw_region <| Go1 3 44 (Pp db 0) <| Gq rfl (Lk 2 hH rfl rfl rfl) <| Go2 2 46 (.string (bs nm)) 47 (Pp b11 0) <| gl_st (st_smput (kt := 9) (e := 73) (v := Pp b11 0) 1 rfl rfl rfl (by kernel_rfl) (by kernel_rfl) hH rfl rfl nm rfl rfl ?_)
 clear hH; intro w13 hH
 refine Dd <| sw_next ?_
 have hq9 : (p.take (modI pt (p.length + 1))).length ≤ 1073741824 := by rw [List.length_take]; omega
 refine sw_sr <| Go2 4 48 (Pp b11 0) 51 (Pp b11 0) <| Gq rfl (Lk 4 hH rfl rfl rfl) <| Go1 1 53 (.slice A7 ((modI pt (p.length + 1)) - 0) (cp - 0)) ?_
 replace hH := hH.nilRow 5 1
 refine gl_st (Apd (e := 5) (.int .u8 0) 1 1 5 rfl hH rfl rfl rfl (hr10.row.mono hH.zin) (bv_one _) (by unfold maxLen; omega) (by omega) ?_)
 clear hH; intro v14 w15 hH
 replace hH := hH.row_eq 5 (l' := (p.take (modI pt (p.length + 1))).length) (xs' := bv (p.take (modI pt (p.length + 1)))) rfl (Nat.zero_add _) (List.nil_append _)
 obtain ⟨A16, c17, rfl, hl18, hm19⟩ := hH.row_form 5 rfl
 refine Go1 2 56 (Pp b11 0) <| gl_st (Ks 4 (.slice A16 ((p.take (modI pt (p.length + 1))).length) c17) rfl hH rfl rfl ?_)
 clear hH; intro w20 hH
 refine Dn <| sw_seq <| sw_sr <| Go1 1 57 (.bool true) <| Dn <| It <| sw_sr <| Go1 2 6 (.iface 38 (.int .i64 80)) <| Dn <| Rt1 rfl rfl ?_
 replace hH := hH.fr6
 replace hH : Hp w w20 _ _ (.row (.slice A16 ((p.take (modI pt (p.length + 1))).length) c17) 5 1 (p.take (modI pt (p.length + 1))).length (bv (p.take (modI pt (p.length + 1)))) :: [filsO es, .smap mb (kput (kvE es) nm (Pp b11 0)), .blk db 70 [.map (some mb), .bool D2.off, arV D2.ar ab], .grp (armO D2.ar ab), .blk b11 80 [.slice A16 ((p.take (modI pt (p.length + 1))).length) c17, .int .i64 0]]) := hH
 replace hH := hH.to_vw
 replace hH := hH.fr2.fr2.fr6
 replace hH : Hp w w20 _ _ (f1O ⟨nm, b11, .slice A16 ((p.take (modI pt (p.length + 1))).length) c17, (p.take (modI pt (p.length + 1))), 0⟩ :: f2O ⟨nm, b11, .slice A16 ((p.take (modI pt (p.length + 1))).length) c17, (p.take (modI pt (p.length + 1))), 0⟩ :: filsO es :: [.smap mb (kput (kvE es) nm (Pp b11 0)), .blk db 70 [.map (some mb), .bool D2.off, arV D2.ar ab], .grp (armO D2.ar ab)]) := hH
 replace hH := fil_put hH
 have hk : kput (kvE es) nm (.pointer (some ⟨b11, 0, none⟩)) = kvE (putE es ⟨nm, b11, .slice A16 ((p.take (modI pt (p.length + 1))).length) c17, (p.take (modI pt (p.length + 1))), 0⟩) := kput_kvE es ⟨nm, b11, .slice A16 ((p.take (modI pt (p.length + 1))).length) c17, (p.take (modI pt (p.length + 1))), 0⟩
 replace hH := hH.cast (os' := [filsO (putE es ⟨nm, b11, .slice A16 ((p.take (modI pt (p.length + 1))).length) c17, (p.take (modI pt (p.length + 1))), 0⟩), .smap mb (kvE (putE es ⟨nm, b11, .slice A16 ((p.take (modI pt (p.length + 1))).length) c17, (p.take (modI pt (p.length + 1))), 0⟩)), .blk db 70 [.map (some mb), .bool D2.off, arV D2.ar ab], .grp (armO D2.ar ab)]) (by rw [hk])
 replace hH := hH.fr4.fr2.fr3.fr4
 replace hH := (hH.sb (slk (slk (slk (slk sln))))).n4
 exact fin_app (cu := true) (pt := pt) (D2 := D2) (p.take (modI pt (p.length + 1))) hm0 hcut (by simp) (by unfold doF; rw [hold]; exact rep_put hR ⟨nm, b11, .slice A16 ((p.take (modI pt (p.length + 1))).length) c17, (p.take (modI pt (p.length + 1))), 0⟩) ((hH.close (r := [])).turned)
 refine sw_cv 10 (.bool false) (by rw [hc3]) rfl <| sw_cv 30 (.bool false) (by rw [hc3]) rfl ?_
 subst hc3
 refine Sk <| sw_seq <| sw_sr <| Go1 2 39 (.bool true) <| Dn <| It <| sw_sr <| Go1 1 40 (.agg #[.slice none 0 0, .int .i64 0]) <| gl_st (Bx [.slice none 0 0, .int .i64 0] rfl hH ?_)
 clear hH; intro b21 w22 hH
 refine Go1 1 7 (Pp b21 0) <| Dn <| sw_region <| Go1 3 44 (Pp db 0) <| Gq rfl (Lk 2 hH rfl rfl rfl) <| Go2 2 46 (.string (bs nm)) 47 (Pp b21 0) <| gl_st (st_smput (kt := 9) (e := 73) (v := Pp b21 0) 1 rfl rfl rfl (by kernel_rfl) (by kernel_rfl) hH rfl rfl nm rfl rfl ?_)
 clear hH; intro w23 hH
 refine Dd <| sw_next ?_
 have hq9 : p.length ≤ 1073741824 := by omega
 refine sw_sr <| glo 4 [(2, .slice Ap p.length cp), (10, .bool false), (48, Pp b21 0), (51, Pp b21 0)] <| Gq rfl (Lk 4 hH rfl rfl rfl) <| Go1 1 53 (.slice Ap p.length cp) ?_
 replace hH := hH.nilRow 5 1
 refine gl_st (Apd (e := 5) (.int .u8 0) 1 1 5 rfl hH rfl rfl rfl (hp.row.mono hH.zin) (bv_one _) (by unfold maxLen; omega) (by omega) ?_)
 clear hH; intro v24 w25 hH
 replace hH := hH.row_eq 5 (l' := p.length) (xs' := bv p) rfl (Nat.zero_add _) (List.nil_append _)
 obtain ⟨A26, c27, rfl, hl28, hm29⟩ := hH.row_form 5 rfl
 refine Go1 2 56 (Pp b21 0) <| gl_st (Ks 4 (.slice A26 p.length c27) rfl hH rfl rfl ?_)
 clear hH; intro w30 hH
 refine Dn <| sw_seq <| sw_sr <| Go1 1 57 (.bool false) <| Dn <| Iz <| sw_skip <| sw_next <| sw_sr <| Go1 1 6 (.nilIface) <| Dn <| Rt1 rfl rfl ?_
 replace hH := hH.fr6
 replace hH : Hp w w30 _ _ (.row (.slice A26 p.length c27) 5 1 p.length (bv p) :: [filsO es, .smap mb (kput (kvE es) nm (Pp b21 0)), .blk db 70 [.map (some mb), .bool D2.off, arV D2.ar ab], .grp (armO D2.ar ab), .blk b21 80 [.slice A26 p.length c27, .int .i64 0]]) := hH
 replace hH := hH.to_vw
 replace hH := hH.fr2.fr2.fr6
 replace hH : Hp w w30 _ _ (f1O ⟨nm, b21, .slice A26 p.length c27, p, 0⟩ :: f2O ⟨nm, b21, .slice A26 p.length c27, p, 0⟩ :: filsO es :: [.smap mb (kput (kvE es) nm (Pp b21 0)), .blk db 70 [.map (some mb), .bool D2.off, arV D2.ar ab], .grp (armO D2.ar ab)]) := hH
 replace hH := fil_put hH
 have hk : kput (kvE es) nm (.pointer (some ⟨b21, 0, none⟩)) = kvE (putE es ⟨nm, b21, .slice A26 p.length c27, p, 0⟩) := kput_kvE es ⟨nm, b21, .slice A26 p.length c27, p, 0⟩
 replace hH := hH.cast (os' := [filsO (putE es ⟨nm, b21, .slice A26 p.length c27, p, 0⟩), .smap mb (kvE (putE es ⟨nm, b21, .slice A26 p.length c27, p, 0⟩)), .blk db 70 [.map (some mb), .bool D2.off, arV D2.ar ab], .grp (armO D2.ar ab)]) (by rw [hk])
 replace hH := hH.fr4.fr2.fr3.fr4
 replace hH := (hH.sb (slk (slk (slk (slk sln))))).n4
 exact fin_app (cu := false) (pt := pt) (D2 := D2) p hm0 hcut (by simp) (by unfold doF; rw [hold]; exact rep_put hR ⟨nm, b21, .slice A26 p.length c27, p, 0⟩) ((hH.close (r := [])).turned)
 have hm00 : mayQ D.off es nm = 0 := by omega
 have hm0 : mayE D nm false = 0 := ff_zero hR (.inl hm00)
 obtain ⟨fb, fv, b, sr, he, hat, hlt⟩ := at_zero hm00
 have hold := old_of hR he
 obtain ⟨hbM, hsr, hnm⟩ := good_at hG hR he
 refine gl_cv 7 (.pointer (some ⟨fb, 0, none⟩)) (hat) rfl <| Go2 4 7 (Pp fb 0) 23 (.bool false) <| Dn <| Iz <| sw_skip <| sw_next <| sw_sr ?_
 obtain ⟨D2, cu, pt, hcut⟩ : ∃ D2 cu pt, cutD D = (D2, cu, pt) := ⟨_, _, _, rfl⟩
 refine Go1 1 26 (Pp db 0) ?_
 replace hH : Hp w w1 _ _ ([_, _] ++ [_, _]) := hH.fr2.fr3
 refine gl_st (Sc rfl rfl (Cut_ct _ ab _ D D2 cu pt _ hcut hA hH.mine) ?_)
 rintro _ w31 ⟨rfl, hF32⟩
 replace hH := hH.turns hF32
 replace hH := hH.n4
 refine Go2 5 9 (.int .i64 pt) 10 (.bool cu) <| Dn <| sw_seq <| sw_sr <| Go1 1 30 (.bool cu) <| Dn <| sw_cond rfl rfl (fun hc9 => ?_) (fun hc9 => ?_)
 refine sw_cv 10 (.bool true) (by rw [hc9]) rfl <| sw_cv 30 (.bool true) (by rw [hc9]) rfl ?_
 subst hc9
 refine sw_region <| Go3 3 31 (.slice Ap p.length cp) 32 (.int .i64 pt) 33 (.slice Ap p.length cp) <| Gq rfl (Ln (e := 5) rfl) <| Gw0 1 35 (((p.length : Nat) : Int) + 1) ((p.length + 1 : Nat) : Int) <| gl_st (Sc rfl rfl (Modulo_ct pt (p.length + 1) _ (by omega) (by omega)) ?_)
 rintro _ w33 ⟨rfl, hF34⟩
 replace hH := hH.call hF34
 have hmod := modI_lt pt (show 0 < p.length + 1 by omega)
 obtain ⟨A35, hk36, hv37⟩ := hp.row.cut (by decide) 0 (modI pt (p.length + 1)) (by omega) (by omega)
 refine Gq rfl (rd_cut (e := 5) (m := 1) (by kernel_rfl) (by kernel_rfl) rfl (.inl ⟨rfl, rfl⟩) (.inr ⟨_, _, rfl, rfl⟩) hk36) ?_
 have hr38 := RB.head hv37 (by omega)
 refine Go1 1 2 (.slice A35 ((modI pt (p.length + 1)) - 0) (cp - 0)) <| Dd <| sw_next <| sw_seq <| sw_sr <| Go1 2 39 (.bool false) <| Dn <| Iz <| sw_skip <| sw_next ?_
 have hq9 : (p.take (modI pt (p.length + 1))).length ≤ 1073741824 := by rw [List.length_take]; omega
 replace hH := fil_out he hH
 replace hH : Hp w w33 _ _ [.blk fb 80 [fv, Ni sr], .vw fv 5 b, restO es (ixE es nm), .smap mb (kvE es), .blk db 70 [.map (some mb), .bool D2.off, arV D2.ar ab], .grp (armO D2.ar ab)] := hH
 obtain ⟨Af, cf, hv, hv1, hv2⟩ := hH.vw_form 1 rfl
 subst hv
 refine sw_sr <| Go2 4 48 (Pp fb 0) 51 (Pp fb 0) <| Gq rfl (Lk 0 hH rfl rfl rfl) <| glo 1 [(10, .bool true), (48, Pp fb 0), (52, .slice Af b.length cf), (53, .slice A35 ((modI pt (p.length + 1)) - 0) (cp - 0))] <| gl_st (st_appV (e := 5) (zv := .int .u8 0) (bytes := 1) 1 rfl rfl rfl (by kernel_rfl) (by kernel_rfl) rfl hH rfl rfl rfl (hr38.mono hH.zin) (by have := hq9; unfold maxLen; omega) (by have := hq9; omega) ?_)
 clear hH; intro v43 w44 hH
 obtain ⟨A39, c40, rfl, hl41, hm42⟩ := hH.vw_form 1 rfl
 refine Go1 2 56 (Pp fb 0) <| gl_st (Ks 0 (.slice A39 ((b ++ (p.take (modI pt (p.length + 1)))).length) c40) rfl hH rfl rfl ?_)
 clear hH; intro w45 hH
 refine Dn <| sw_seq <| sw_sr <| Go1 1 57 (.bool true) <| Dn <| It <| sw_sr <| Go1 2 6 (.iface 38 (.int .i64 80)) <| Dn <| Rt1 rfl rfl ?_
 replace hH : Hp w w45 _ _ (f1O ⟨nm, fb, (.slice A39 (b ++ (p.take (modI pt (p.length + 1)))).length c40), b ++ (p.take (modI pt (p.length + 1))), sr⟩ :: f2O ⟨nm, fb, (.slice A39 (b ++ (p.take (modI pt (p.length + 1)))).length c40), b ++ (p.take (modI pt (p.length + 1))), sr⟩ :: restO es (ixE es nm) :: [.smap mb (kvE es), .blk db 70 [.map (some mb), .bool D2.off, arV D2.ar ab], .grp (armO D2.ar ab)]) := hH
 replace hH := fil_in (List.getElem?_eq_some_iff.1 he).1 hH
 have hkv : kvE es = kvE (es.set (ixE es nm) ⟨nm, fb, (.slice A39 (b ++ (p.take (modI pt (p.length + 1)))).length c40), b ++ (p.take (modI pt (p.length + 1))), sr⟩) := (kvE_set (e' := ⟨nm, fb, (.slice A39 (b ++ (p.take (modI pt (p.length + 1)))).length c40), b ++ (p.take (modI pt (p.length + 1))), sr⟩) he rfl rfl).symm
 replace hH := hH.cast (os' := [filsO (es.set (ixE es nm) ⟨nm, fb, (.slice A39 (b ++ (p.take (modI pt (p.length + 1)))).length c40), b ++ (p.take (modI pt (p.length + 1))), sr⟩), .smap mb (kvE (es.set (ixE es nm) ⟨nm, fb, (.slice A39 (b ++ (p.take (modI pt (p.length + 1)))).length c40), b ++ (p.take (modI pt (p.length + 1))), sr⟩)), .blk db 70 [.map (some mb), .bool D2.off, arV D2.ar ab], .grp (armO D2.ar ab)]) (by rw [← hkv])
 replace hH := hH.fr4.fr2.fr3.fr4
 replace hH := (hH.sb (slk (slk (slk (slk sln))))).n4
 exact fin_app (cu := true) (pt := pt) (D2 := D2) (p.take (modI pt (p.length + 1))) hm0 hcut (by simp) (by unfold doF; rw [hold]; exact rep_set hR he _ rfl) ((hH.close (r := [])).turned)
 refine sw_cv 10 (.bool false) (by rw [hc9]) rfl <| sw_cv 30 (.bool false) (by rw [hc9]) rfl ?_
 subst hc9
 refine Sk <| sw_seq <| sw_sr <| Go1 2 39 (.bool false) <| Dn <| Iz <| sw_skip <| sw_next ?_
 have hq9 : p.length ≤ 1073741824 := by omega
 replace hH := fil_out he hH
 replace hH : Hp w w31 _ _ [.blk fb 80 [fv, Ni sr], .vw fv 5 b, restO es (ixE es nm), .smap mb (kvE es), .blk db 70 [.map (some mb), .bool D2.off, arV D2.ar ab], .grp (armO D2.ar ab)] := hH
 obtain ⟨Af, cf, hv, hv1, hv2⟩ := hH.vw_form 1 rfl
 subst hv
 refine sw_sr <| Go2 4 48 (Pp fb 0) 51 (Pp fb 0) <| Gq rfl (Lk 0 hH rfl rfl rfl) <| Go1 1 53 (.slice Ap p.length cp) <| gl_st (st_appV (e := 5) (zv := .int .u8 0) (bytes := 1) 1 rfl rfl rfl (by kernel_rfl) (by kernel_rfl) rfl hH rfl rfl rfl (hp.mono hH.zin) (by have := hq9; unfold maxLen; omega) (by have := hq9; omega) ?_)
 clear hH; intro v50 w51 hH
 obtain ⟨A46, c47, rfl, hl48, hm49⟩ := hH.vw_form 1 rfl
 refine Go1 2 56 (Pp fb 0) <| gl_st (Ks 0 (.slice A46 ((b ++ p).length) c47) rfl hH rfl rfl ?_)
 clear hH; intro w52 hH
 refine Dn <| sw_seq <| sw_sr <| Go1 1 57 (.bool false) <| Dn <| Iz <| sw_skip <| sw_next <| sw_sr <| Go1 1 6 (.nilIface) <| Dn <| Rt1 rfl rfl ?_
 replace hH : Hp w w52 _ _ (f1O ⟨nm, fb, (.slice A46 (b ++ p).length c47), b ++ p, sr⟩ :: f2O ⟨nm, fb, (.slice A46 (b ++ p).length c47), b ++ p, sr⟩ :: restO es (ixE es nm) :: [.smap mb (kvE es), .blk db 70 [.map (some mb), .bool D2.off, arV D2.ar ab], .grp (armO D2.ar ab)]) := hH
 replace hH := fil_in (List.getElem?_eq_some_iff.1 he).1 hH
 have hkv : kvE es = kvE (es.set (ixE es nm) ⟨nm, fb, (.slice A46 (b ++ p).length c47), b ++ p, sr⟩) := (kvE_set (e' := ⟨nm, fb, (.slice A46 (b ++ p).length c47), b ++ p, sr⟩) he rfl rfl).symm
 replace hH := hH.cast (os' := [filsO (es.set (ixE es nm) ⟨nm, fb, (.slice A46 (b ++ p).length c47), b ++ p, sr⟩), .smap mb (kvE (es.set (ixE es nm) ⟨nm, fb, (.slice A46 (b ++ p).length c47), b ++ p, sr⟩)), .blk db 70 [.map (some mb), .bool D2.off, arV D2.ar ab], .grp (armO D2.ar ab)]) (by rw [← hkv])
 replace hH := hH.fr4.fr2.fr3.fr4
 replace hH := (hH.sb (slk (slk (slk (slk sln))))).n4
 exact fin_app (cu := false) (pt := pt) (D2 := D2) p hm0 hcut (by simp) (by unfold doF; rw [hold]; exact rep_set hR he _ rfl) ((hH.close (r := [])).turned)
end Go.Proofs.YtajapgjemefoiaaGreatDoor
/- Layer 18 (disk), the program's: Files, Start, Arm, Down, New: what they answer. -/
set_option maxRecDepth 100000
set_option maxHeartbeats 2000000
set_option linter.unusedVariables false
set_option linter.unusedSimpArgs false
namespace Go.Proofs.YtajapgjemefoiaaGreatDoor
open Go.RowKit Go.SW
def filC (q : Fil × Value) : List Value := [.string (bs q.1.name), q.2, .int .i64 ((q.1.sure : Nat) : Int)]
theorem filC_len (q : Fil × Value) : (filC q).length = 3 := rfl
def filR (q : Fil × Value) : Own := .row q.2 5 1 q.1.b.length (bv q.1.b)
def filRs (qs : List (Fil × Value)) : Own := .grp (qs.map filR)
theorem filC_snoc (qs : List (Fil × Value)) (q : Fil × Value) : rowC filC qs ++ filC q = rowC filC (qs ++ [q]) := by simp [rowC]
theorem pe_at {es : List PE} {F : List Fil} (hR : Rep es F) {i : Nat} {f : Fil} (h : F[i]? = some f) : ∃ fb fv, es[ixE es f.name]? = some ⟨f.name, fb, fv, f.b, f.sure⟩ ∧ fV es f.name = .pointer (some ⟨fb, 0, none⟩) ∧ ixE es f.name < es.length := by
  have h1 := rep_get hR f.name
  rw [(getF_some hR.srt).2 ⟨List.mem_of_getElem? h, rfl⟩] at h1
  obtain ⟨⟨nm, fb, fv, b, sr⟩, h2, h3⟩ := Option.map_eq_some_iff.1 h1
  subst h3
  exact ⟨fb, fv, h2, by unfold fV; rw [h2], (List.getElem?_eq_some_iff.1 h2).1⟩
theorem setF_at {F : List Fil} (h : Srt F) {i : Nat} {f f' : Fil} (hi : F[i]? = some f) (hn : f'.name = f.name) (hs : Srt (F.set i f')) : setF F f' = F.set i f' := by
  refine srt_eq (srt_set h f') hs (perm_of_mem (srt_nodup (srt_set h f')) (srt_nodup hs) fun g => ?_)
  have hil := (List.getElem?_eq_some_iff.1 hi).1
  rw [mem_set]
  constructor
  · rintro (rfl | ⟨h1, h2⟩)
    · exact List.mem_of_getElem? (i := i) (by rw [List.getElem?_set, if_pos rfl, if_pos hil])
    · obtain ⟨j, hj⟩ := List.getElem?_of_mem h1
      have hij : i ≠ j := by
        rintro rfl
        rw [hi] at hj
        cases hj
        exact h2 hn.symm
      exact List.mem_of_getElem? (i := j) (by rw [List.getElem?_set, if_neg hij]; exact hj)
  · intro hg
    obtain ⟨j, hj⟩ := List.getElem?_of_mem hg
    rw [List.getElem?_set] at hj
    by_cases hij : i = j
    · rw [if_pos hij, if_pos (hij ▸ hil)] at hj
      cases hj
      exact .inl rfl
    · rw [if_neg hij] at hj
      refine .inr ⟨List.mem_of_getElem? hj, fun e => ?_⟩
      have hnd := srt_nodup h
      have h4 : (F.map (·.name))[i]? = (F.map (·.name))[j]? := by rw [List.getElem?_map, List.getElem?_map, hi, hj]; simp [e, hn]
      exact hij ((List.getElem?_inj (by simpa using hil) hnd).1 h4)
theorem skeys_le {es : List PE} {F : List Fil} {M : Nat} (hR : Rep es F) (hG : Good F M) : ∀ p ∈ kvE es, p.1.length ≤ maxLen := by
  intro p hp
  obtain ⟨e, he, rfl⟩ := List.mem_map.1 hp
  have := hG.nm _ (hR.perm.mem_iff.1 (List.mem_map.2 ⟨e, he, rfl⟩))
  have h2 : e.fil.name = e.name := rfl
  rw [h2] at this
  simp only [maxLen]; omega
theorem kvE_names (es : List PE) : (kvE es).map (·.1) = es.map (·.name) := by simp [kvE]
theorem kvE_len {es : List PE} {F : List Fil} (hR : Rep es F) : (kvE es).length = F.length := by rw [← hR.perm.length_eq]; simp [kvE]
def nmC (F : List Fil) : List Value := F.map fun f => .string (bs f.name)
theorem nmC_at {F : List Fil} {i : Nat} {f : Fil} (h : F[i]? = some f) : (nmC F)[i * 1 + 0]? = some (.string (bs f.name)) := by unfold nmC; rw [Nat.mul_one, Nat.add_zero, List.getElem?_map, h]; rfl
theorem keys_row {es : List PE} {F : List Fil} (hR : Rep es F) {ss : List (List UInt8)} (hs : ss.Perm ((kvE es).map (·.1))) : ss.length = F.length ∧ ((ss.mergeSort fun x y => decide (x ≤ y)).map fun s => Value.string (bs s)) = nmC F := by
  rw [kvE_names] at hs
  refine ⟨?_, ?_⟩
  · have h1 := hs.length_eq
    have h2 := hR.perm.length_eq
    simp only [List.length_map] at h1 h2
    omega
  · rw [rep_keys hR hs, List.map_map]; rfl
theorem Down_ct (db mb ab : Nat) (D : Dsk) (es : List PE) (w : World) (hM : Mine w (ownD db mb ab D es)) :
    Fun Tryz.prog 39 [.pointer (some ⟨db, 0, none⟩)] w fun v w' => v = .bool D.off ∧ Turn w w' (ownD db mb ab D es) (ownD db mb ab D es) := by
 refine fun_of_sw Tryz.func39 rfl 7 rfl rfl ?_
 have hH : Hp w w (off w (blksOf (ownD db mb ab D es))) (blksOf (ownD db mb ab D es)) (dskO db mb ab D es ++ []) := (Hp.start_mine hM).open_
 replace hH : Hp w w _ _ [.blk db 70 [.map (some mb), .bool D.off, arV D.ar ab], .smap mb (kvE es), filsO es, .grp (armO D.ar ab)] := hH
 refine sw_sr <| Go0 1 <| Dn <| sw_sr <| Go1 3 5 (Pp db 1) <| Gq rfl (Lk 0 hH rfl rfl rfl) <| Go1 1 2 (.bool D.off) <| Dn <| Rt1 rfl rfl ?_
 replace hH := (hH.sb (slk (slk (slk (slk sln))))).n4
 exact ⟨rfl, (hH.close (r := [])).turned⟩
theorem DNew_ct (w : World) : Fun Tryz.prog 8 [] w fun v w' => ∃ db mb, v = .pointer (some ⟨db, 0, none⟩) ∧ Fresh w w' [.grp (dskO db mb 0 ⟨[], false, none⟩ [])] := by
 refine fun_of_sw Tryz.func8 rfl 4 rfl rfl ?_
 have hH := Hp.start w
 refine sw_sr <| Go0 1 <| Dn <| sw_sr <| gl_st (st_makeSm rfl rfl rfl hH ?_)
 clear hH; intro m1 w2 hH
 refine Go1 1 2 (.agg #[.map (some m1), .bool false, .pointer none]) <| gl_st (Bx [.map (some m1), .bool false, .pointer none] rfl hH ?_)
 clear hH; intro b3 w4 hH
 refine Go1 1 0 (Pp b3 0) <| Dn <| Rt1 rfl rfl ?_
 replace hH := hH.fr2
 have h3 := hH.nogrp.nogrp
 have h4 : Hp w w4 _ _ (dskO b3 m1 0 ⟨[], false, none⟩ [] ++ []) := h3
 exact ⟨_, _, rfl, h4.close.fresh⟩
theorem take_next {α : Type} {l : List α} {i : Nat} {f : α} (h : l[i]? = some f) : l.take i ++ [f] = l.take (i + 1) := by
  have hi := (List.getElem?_eq_some_iff.1 h)
  obtain ⟨h1, h2⟩ := hi
  rw [List.take_succ_eq_append_getElem h1, h2]

theorem Files_ct (db mb ab : Nat) (D : Dsk) (es : List PE) (M : Nat) (w : World) (hM : Mine w (ownD db mb ab D es)) (hR : Rep es D.fs) (hG : Good D.fs M) (hMM : M ≤ 140737488355328) (hN : D.fs.length ≤ 1000000) :
    Fun Tryz.prog 17 [.pointer (some ⟨db, 0, none⟩)] w fun v w' => ∃ v1 qs, v = v1 ∧ qs.map (·.1) = D.fs ∧ Turn w w' (ownD db mb ab D es) [.grp (dskO db mb ab D es), .row v1 83 3 qs.length (rowC filC qs), filRs qs] := by
 refine fun_of_sw Tryz.func17 rfl 40 rfl rfl ?_
 have hH : Hp w w (off w (blksOf (ownD db mb ab D es))) (blksOf (ownD db mb ab D es)) (dskO db mb ab D es ++ []) := (Hp.start_mine hM).open_
 replace hH : Hp w w _ _ [.blk db 70 [.map (some mb), .bool D.off, arV D.ar ab], .smap mb (kvE es), filsO es, .grp (armO D.ar ab)] := hH
 refine sw_sr <| Go0 1 <| Dn <| sw_sr <| Go1 1 3 (.slice none 0 0) <| Dn <| sw_seq ?_
 replace hH := (hH.nogrp).nilRow 83 3
 replace hH : Hp w w _ _ [.blk db 70 [.map (some mb), .bool D.off, arV D.ar ab], .smap mb (kvE es), filsO es, .grp (armO D.ar ab), filRs [], .row (.slice none 0 0) 83 3 0 []] := hH
 refine sw_sr <| Go1 3 9 (Pp db 0) <| Gq rfl (Lk 0 hH rfl rfl rfl) <| gl_st (Sc rfl rfl (MapsKeys_ct mb _) ?_)
 rintro _ w2 ⟨kb1, rfl, hF3⟩
 replace hH := hH.call hF3
 refine gl_st (Sc rfl rfl (SortedKeys_ct kb1 mb _ _ (hH.blk_cell 6 rfl rfl) (hH.own _ (List.mem_of_getElem? (i := 1) rfl)) (skeys_le hR hG) (by rw [kvE_len hR]; omega)) ?_)
 rintro _ w4 ⟨ss, kv, rfl, hperm, hF5⟩
 replace hH := hH.call hF5
 obtain ⟨hs1, hs2⟩ := keys_row hR hperm
 rw [hs1, hs2] at hH
 obtain ⟨A6, c7, rfl, hl8, hm9⟩ := hH.row_form 7 rfl
 refine Gq rfl (Ln (e := 9) rfl) <| Go1 1 14 (.int .i64 0) <| Dn <| sw_block ?_
 replace hH := hH.fr6.fr6.fr8.fr7.fr7.fr7.fr7
 replace hH := (hH.sb (slk (slk (slk (slk (slk (slk (slk sln)))))))).n7
 refine Lp (γ := Nat × List (Fil × Value) × Option Addr × Nat) hH (fun (i, qs, Ao, co) => [(0, Pp db 0), (3, .slice Ao qs.length co), (12, .slice A6 D.fs.length c7), (13, Ni D.fs.length), (14, Ni i)]) (fun (i, qs, Ao, co) w_ H_ => (i ≤ D.fs.length) ∧ (qs.map (·.1) = D.fs.take i) ∧ H_ [.blk db 70 [.map (some mb), .bool D.off, arV D.ar ab], .smap mb (kvE es), filsO es, .grp (armO D.ar ab), .row (.slice A6 D.fs.length c7) 9 1 D.fs.length (nmC D.fs), filRs qs, .row (.slice Ao qs.length co) 83 3 qs.length (rowC filC qs)]) (fun (i, qs, Ao, co) => D.fs.length - i) (0, [], none, 0) ?_ ?_
 · exact ⟨by omega, by simp, hH⟩
 clear hH
 rintro ⟨i, qs, Ao, co⟩ w10 ⟨hi, hqs, hH⟩
 have hql : qs.length = i := by have := congrArg List.length hqs; simp at this; omega
 refine swk [(0, Pp db 0), (3, .slice Ao qs.length co), (12, .slice A6 D.fs.length c7), (13, Ni D.fs.length), (14, Ni i)] <| sw_sr <| Go1 1 15 (.bool (decide ((i : Int) < ((D.fs.length : Nat) : Int)))) <| Dn <| sw_seq <| If rfl (fun hc1 => ?_) (fun hc1 => ?_)
 refine Sk <| sw_seq <| sw_block ?_
 obtain ⟨f, hf⟩ : ∃ f, D.fs[i]? = some f := ⟨_, List.getElem?_eq_getElem (by omega)⟩
 refine sw_sr ?_
 obtain ⟨b12, hb11, hi13⟩ := hH.row_idx 4 rfl i (by omega)
 refine Gq rfl (Ix (e := 9) 1 rfl rfl hi13) <| Gq rfl (Lo 4 hH rfl rfl hb11 (nmC_at hf)) <| Go1 1 5 (.string (bs f.name)) <| Dn ?_
 obtain ⟨fb, fv, he, hfv, hlt⟩ := pe_at hR hf
 obtain ⟨hbM, hsr, hnm⟩ := good_at hG hR he
 refine sw_sr <| Go1 3 20 (Pp db 0) <| Gq rfl (Lk 0 hH rfl rfl rfl) <| Go1 1 22 (.string (bs f.name)) <| Gq rfl (rd_smget (kt := 9) (e := 73) (zv := .pointer none) 1 (by kernel_rfl) (by kernel_rfl) (by kernel_rfl) hH rfl rfl f.name rfl) <| gl_cv 23 (Pp fb 0) ((fV_get _ _).trans hfv) rfl <| Go1 1 6 (Pp fb 0) <| Dn ?_
 obtain ⟨Af, cf, rfl, hf1, hf2⟩ := (fil_rb hH 2 rfl he).row.form
 refine Dr hH (slk (slk (slk (slk (slk (slk sln)))))) ?_
 clear hH; intro w14 hH hS9
 refine Gp3 5 [0,1,2,3,4] 24 (.slice Ao qs.length co) 25 (.string (bs f.name)) 28 (Pp fb 0) hS9 <| Dq 5 rfl (fun _ hS => (rd_load (by kernel_rfl) rfl (fil_cell0 hS 2 rfl he))) hS9 <| gdk [(0, Pp db 0), (3, .slice Ao qs.length co), (6, Pp fb 0), (12, .slice A6 D.fs.length c7), (13, Ni D.fs.length), (14, Ni i), (24, .slice Ao qs.length co), (25, .string (bs f.name)), (29, .slice Af f.b.length cf)] <| Gp1 3 [7,8,9] 33 (Pp fb 1) hS9 <| Dq 10 rfl (fun _ hS => (rd_load (by kernel_rfl) rfl (fil_cell1 hS 2 rfl he))) hS9 <| gdk [(0, Pp db 0), (3, .slice Ao qs.length co), (12, .slice A6 D.fs.length c7), (13, Ni D.fs.length), (14, Ni i), (24, .slice Ao qs.length co), (25, .string (bs f.name)), (29, .slice Af f.b.length cf), (34, Ni f.sure)] <| gds 6 (Sc rfl rfl (SClone_ct _ f.b _ (fil_rb hH 2 rfl he) (by omega)) ?_)
 rintro _ w17 ⟨v15, rfl, hF18⟩
 replace hH := hH.call hF18
 obtain ⟨A19, c20, rfl, hl21, hm22⟩ := hH.row_form 7 rfl
 refine Nl (hH.sb (slk (slk (slk (slk (slk (slk sln))))))) fun hS9 => Gp1 1 [11] 35 (.agg #[.string (bs f.name), .slice A19 f.b.length c20, Ni f.sure]) hS9 <| gds 12 (st_buildS (e := 83) (zv := .agg #[.string (bs []), .slice none 0 0, .int .i64 0]) (m := 3) (bytes := 48) rfl rfl rfl (by kernel_rfl) (by kernel_rfl) rfl (cs := [.string (bs f.name), .slice A19 f.b.length c20, Ni f.sure]) (by kernel_rfl) rfl hH ?_)
 clear hH; intro b23 w24 hH
 replace hH := hH.n9
 refine Nl (hH.sb (slk (slk (slk (slk (slk (slk sln))))))) fun hS9 => gds 13 (Apd (e := 83) (.agg #[.string (bs []), .slice none 0 0, .int .i64 0]) 3 48 6 rfl hH rfl rfl rfl (hH.row_reads 8 rfl) (by simp [Value.oneCell']) (by unfold maxLen; omega) (by omega) ?_)
 clear hH; intro v25 w26 hH
 replace hH := hH.row_eq 6 (l' := (qs ++ [(f, (Value.slice A19 f.b.length c20))]).length) (xs' := rowC filC (qs ++ [(f, (Value.slice A19 f.b.length c20))])) rfl (by simp) (filC_snoc qs (f, (Value.slice A19 f.b.length c20)))
 obtain ⟨A27, c28, rfl, hl29, hm30⟩ := hH.row_form 6 rfl
 replace hH := hH.n9
 refine Nl (hH.sb (slk (slk (slk (slk (slk (slk sln))))))) fun hS9 => Gp1 1 [14] 3 (.slice A27 ((qs ++ [(f, (Value.slice A19 f.b.length c20))]).length) c28) hS9 <| gdn [(0, Pp db 0), (3, .slice A27 ((qs ++ [(f, (Value.slice A19 f.b.length c20))]).length) c28), (12, .slice A6 D.fs.length c7), (13, Ni D.fs.length), (14, Ni i)] <| bkN <| sw_next <| sw_region <| Gw0 1 38 ((i : Int) + 1) ((i + 1 : Nat) : Int) <| Go1 1 14 (Ni (i + 1)) <| Dd <| rnd_end (g := (i, qs, Ao, co)) (i + 1, qs ++ [(f, (Value.slice A19 f.b.length c20))], A27, c28) (by kernel_rfl) ?_ ?_
 replace hH := hH.fr8.fr7
 replace hH := hH.merge
 replace hH := hH.cast (os' := [filRs (qs ++ [(f, (Value.slice A19 f.b.length c20))]), .blk db 70 [.map (some mb), .bool D.off, arV D.ar ab], .smap mb (kvE es), filsO es, .grp (armO D.ar ab), .row (.slice A6 D.fs.length c7) 9 1 D.fs.length (nmC D.fs), .row (.slice A27 ((qs ++ [(f, (Value.slice A19 f.b.length c20))]).length) c28) 83 3 ((qs ++ [(f, (Value.slice A19 f.b.length c20))]).length) (rowC filC (qs ++ [(f, (Value.slice A19 f.b.length c20))])), .row (.slice (some ⟨b23, 0, none⟩) 1 1) 83 3 1 [.string (bs f.name), .slice A19 f.b.length c20, Ni f.sure]]) (by simp [filRs, filR])
 replace hH := hH.fr7.fr2.fr7.fr7.fr7.fr7.fr7
 replace hH := (hH.sb (slk (slk (slk (slk (slk (slk (slk sln)))))))).n7
 · exact ⟨by omega, by rw [List.map_append, hqs, List.map_singleton, take_next hf], hH⟩
 · show D.fs.length - (i + 1) < D.fs.length - i; omega
 refine sw_exit <| thX <| thX <| bkH <| sw_next <| sw_sr <| Go1 2 2 (.slice Ao qs.length co) <| Dn <| Rt1 rfl rfl ?_
 replace hH := hH.fr6.fr7.fr6.fr6.fr6.fr6
 replace hH := (hH.sb (slk (slk (slk (slk (slk (slk sln))))))).n6
 replace hH : Hp w w10 _ _ (dskO db mb ab D es ++ [.row (.slice Ao qs.length co) 83 3 qs.length (rowC filC qs), filRs qs]) := hH
 exact ⟨_, qs, rfl, by rw [hqs, List.take_of_length_le (by omega)], hH.close.turned⟩
end Go.Proofs.YtajapgjemefoiaaGreatDoor
/- Layer 18 (disk), the document's own: Same: what it answers. -/
set_option maxRecDepth 100000
set_option maxHeartbeats 4000000
set_option linter.unusedVariables false
set_option linter.unusedSimpArgs false
namespace Go.Proofs.YtajapgjemefoiaaGreatDoor
open Go.RowKit Go.SW
abbrev FV := List (Fil × Value)
theorem map_fst_eq {qs rs : FV} (hl : qs.length = rs.length) (h : ∀ j : Nat, j < qs.length → ∀ q r, qs[j]? = some q → rs[j]? = some r → q.1 = r.1) : qs.map (·.1) = rs.map (·.1) := by
  apply List.ext_getElem?
  intro j
  rw [List.getElem?_map, List.getElem?_map]
  by_cases hj : j < qs.length
  · rw [List.getElem?_eq_getElem hj, List.getElem?_eq_getElem (show j < rs.length by omega)]
    simp only [Option.map_some]
    rw [h j hj _ _ (List.getElem?_eq_getElem hj) (List.getElem?_eq_getElem (by omega))]
  · rw [List.getElem?_eq_none (by omega), List.getElem?_eq_none (by omega)]
theorem map_fst_ne {qs rs : FV} {j : Nat} {q r : Fil × Value} (hq : qs[j]? = some q) (hr : rs[j]? = some r) (h : q.1 ≠ r.1) : ¬ qs.map (·.1) = rs.map (·.1) := by
  intro e
  have := congrArg (fun l => l[j]?) e
  simp only [List.getElem?_map, hq, hr, Option.map_some, Option.some.injEq] at this
  exact h this
theorem fil_ext {f g : Fil} (h1 : f.name = g.name) (h2 : f.sure = g.sure) (h3 : f.b = g.b) : f = g := by
  cases f; cases g; simp_all
theorem all_nx2 {qs rs : FV} {i : Nat} (h : ∀ j : Nat, j < i → ∀ q r, qs[j]? = some q → rs[j]? = some r → q.1 = r.1) {q r : Fil × Value} (hq : qs[i]? = some q) (hr : rs[i]? = some r) (e : q.1 = r.1) : ∀ j : Nat, j < i + 1 → ∀ q r, qs[j]? = some q → rs[j]? = some r → q.1 = r.1 := fun j hj q' r' h1 h2 => by
  rcases Nat.lt_succ_iff_lt_or_eq.1 hj with h3 | rfl
  · exact h j h3 q' r' h1 h2
  · rw [hq] at h1; rw [hr] at h2; cases h1; cases h2; exact e
section
variable {w w0 : World} {z : Zone} {F : List Nat} {os : List Own} {L : FV}
theorem rs_rbs (hH : Hp w0 w z F os) (k : Nat) (hk : os[k]? = some (filRs L)) : ∀ q ∈ L, RB w.cell? q.2 q.1.b := by
  intro q hq
  have h : ∀ o ∈ L.map filR, o.at w := hH.own _ (List.mem_of_getElem? hk)
  exact Row.of_own (h (filR q) (List.mem_map.2 ⟨q, hq, rfl⟩))
end

theorem Same18_ct (va vb : Value) (qs rs : FV) (w : World) (ha : Row w.cell? va 3 qs.length (rowC filC qs)) (hb : Row w.cell? vb 3 rs.length (rowC filC rs)) (hqa : ∀ q ∈ qs, RB w.cell? q.2 q.1.b) (hqb : ∀ q ∈ rs, RB w.cell? q.2 q.1.b) :
    Fun Tryz.prog 22 [va, vb] w fun v w' => ∃ b, v = .bool b ∧ (b = true ↔ qs.map (·.1) = rs.map (·.1)) ∧ Fresh w w' [] := by
 obtain ⟨Aa, ca, rfl, ha1, ha2⟩ := ha.form
 obtain ⟨Ab2, cb2, rfl, hb1, hb2⟩ := hb.form
 have ha3 := ha2
 simp only [maxLen] at ha3
 refine fun_of_sw Tryz.func22 rfl 56 rfl rfl ?_
 have hH := Hp.start w
 refine sw_sr <| Go0 1 <| Dn <| sw_seq <| sw_sr <| Go1 1 6 (.slice Aa qs.length ca) <| Gq rfl (Ln (e := 83) rfl) <| Go1 1 8 (.slice Ab2 rs.length cb2) <| Gq rfl (Ln (e := 83) rfl) <| Go1 1 10 (.bool (((qs.length : Nat) : Int) != ((rs.length : Nat) : Int))) <| Dn <| If rfl (fun hc1 => ?_) (fun hc1 => ?_)
 refine sw_sr <| Go1 1 4 (.bool false) <| Dn <| Rt1 rfl rfl ?_
 first | exact ⟨false, rfl, ⟨fun h => Bool.noConfusion h, fun h => absurd h (map_fst_ne hq hr (fun e9 => hN0 (by rw [show q = r from e9])))⟩, (hH.sb sln).fresh⟩ | exact ⟨false, rfl, ⟨fun h => Bool.noConfusion h, fun h => absurd h (map_fst_ne hq hr (fun e9 => absurd (show q.sure = r.sure by rw [show q = r from e9]) (by omega)))⟩, (hH.sb sln).fresh⟩ | exact ⟨false, rfl, ⟨fun h => Bool.noConfusion h, fun h => absurd h (map_fst_ne hq hr (fun e9 => hB0 (by rw [show q = r from e9])))⟩, (hH.sb sln).fresh⟩ | exact ⟨true, rfl, ⟨fun _ => map_fst_eq hlen (fun j hj => hall j (by omega)), fun _ => rfl⟩, hH.fresh⟩ | exact ⟨false, rfl, ⟨fun h => Bool.noConfusion h, fun h => absurd (congrArg List.length h) (by simp; omega)⟩, hH.fresh⟩
 have hlen : qs.length = rs.length := by omega
 refine Sk <| sw_seq <| sw_sr <| Go1 1 5 (.int .i64 0) <| Dn <| sw_block <| Lp (γ := Nat) hH (fun i => [(0, .slice Aa qs.length ca), (1, .slice Ab2 rs.length cb2), (5, Ni i)]) (fun i w_ H_ => (i ≤ qs.length) ∧ (∀ j : Nat, j < i → ∀ q r, qs[j]? = some q → rs[j]? = some r → q.1 = r.1) ∧ H_ []) (fun i => qs.length - i) (0) ?_ ?_
 · exact ⟨by omega, fun j hj => absurd hj (by omega), hH⟩
 clear hH
 rintro i w1 ⟨hi, hall, hH⟩
 refine swk [(0, .slice Aa qs.length ca), (1, .slice Ab2 rs.length cb2), (5, Ni i)] <| sw_seq <| sw_sr <| Go2 2 11 (Ni i) 12 (.slice Aa qs.length ca) <| Gq rfl (Ln (e := 83) rfl) <| Go1 1 14 (.bool (decide ((i : Int) < ((qs.length : Nat) : Int)))) <| Dn <| If rfl (fun hc2 => ?_) (fun hc2 => ?_)
 refine Sk <| sw_seq <| sw_block <| sw_seq ?_
 obtain ⟨⟨q, uq⟩, hq⟩ : ∃ x, qs[i]? = some x := ⟨_, List.getElem?_eq_getElem (by omega)⟩
 have hbx : RB w.cell? uq q.b := hqa _ (List.mem_of_getElem? hq)
 obtain ⟨Ax, cx, rfl, hkx, hmx⟩ := hbx.row.form
 obtain ⟨⟨r, ur⟩, hr⟩ : ∃ x, rs[i]? = some x := ⟨_, List.getElem?_eq_getElem (by omega)⟩
 have hby : RB w.cell? ur r.b := hqb _ (List.mem_of_getElem? hr)
 obtain ⟨Ay, cy, rfl, hky, hmy⟩ := hby.row.form
 refine Dr hH sln ?_
 clear hH; intro w2 hH hS9
 obtain ⟨p3, hi5, hp4⟩ := ha.idx i (by omega) (by decide)
 refine Gp2 2 [0,1] 17 (.slice Aa qs.length ca) 18 (Ni i) hS9 <| Dq 2 rfl (fun _ hS => (Ix (e := 83) 3 rfl rfl hi5)) hS9 <| Gp1 1 [3] 20 (.pointer (some p3)) hS9 <| Dq 4 rfl (fun _ hS => (rd_load (by kernel_rfl) rfl (hS.zin _ _ (hp4 0 _ (by decide) (rowC_at filC_len hq 0 (by decide) rfl))))) hS9 ?_
 obtain ⟨p6, hi8, hp7⟩ := hb.idx i (by omega) (by decide)
 refine Gp2 2 [5,6] 22 (.slice Ab2 rs.length cb2) 23 (Ni i) hS9 <| Dq 7 rfl (fun _ hS => (Ix (e := 83) 3 rfl rfl hi8)) hS9 <| Gp1 1 [8] 25 (.pointer (some p6)) hS9 <| Dq 9 rfl (fun _ hS => (rd_load (by kernel_rfl) rfl (hS.zin _ _ (hp7 0 _ (by decide) (rowC_at filC_len hr 0 (by decide) rfl))))) hS9 <| Dq 10 rfl (fun _ hS => (rd_sneq (by kernel_rfl) rfl rfl)) hS9 <| Gp1 1 [11] 28 (.bool (!(q.name == r.name))) hS9 <| Di 28 rfl (fun hg3 => ?_) (fun hg3 => ?_)
 have hN0 := hg3
 refine Gp1 27 [12,13,14,15,16,17,18,19,20,21,22,23,24,25,26,27,28,29,30,31,32,33,34,35,36,37,38] 55 (.bool true) hS9 <| gdn [(0, .slice Aa qs.length ca), (1, .slice Ab2 rs.length cb2), (5, Ni i), (55, .bool true)] <| sw_next <| It <| sw_sr <| Go1 1 4 (.bool false) <| Dn <| Rt1 rfl rfl ?_
 first | exact ⟨false, rfl, ⟨fun h => Bool.noConfusion h, fun h => absurd h (map_fst_ne hq hr (fun e9 => hN0 (by rw [show q = r from e9])))⟩, (hH.sb sln).fresh⟩ | exact ⟨false, rfl, ⟨fun h => Bool.noConfusion h, fun h => absurd h (map_fst_ne hq hr (fun e9 => absurd (show q.sure = r.sure by rw [show q = r from e9]) (by omega)))⟩, (hH.sb sln).fresh⟩ | exact ⟨false, rfl, ⟨fun h => Bool.noConfusion h, fun h => absurd h (map_fst_ne hq hr (fun e9 => hB0 (by rw [show q = r from e9])))⟩, (hH.sb sln).fresh⟩ | exact ⟨true, rfl, ⟨fun _ => map_fst_eq hlen (fun j hj => hall j (by omega)), fun _ => rfl⟩, hH.fresh⟩ | exact ⟨false, rfl, ⟨fun h => Bool.noConfusion h, fun h => absurd (congrArg List.length h) (by simp; omega)⟩, hH.fresh⟩
 have hN1 := hg3
 obtain ⟨p9, hi11, hp10⟩ := ha.idx i (by omega) (by decide)
 refine Gp2 2 [12,13] 29 (.slice Aa qs.length ca) 30 (Ni i) hS9 <| Dq 14 rfl (fun _ hS => (Ix (e := 83) 3 rfl rfl hi11)) hS9 <| Gp1 1 [15] 32 (.pointer (some (p9.add 2))) hS9 <| Dq 16 rfl (fun _ hS => (rd_load (by kernel_rfl) rfl (hS.zin _ _ (hp10 2 _ (by decide) (rowC_at filC_len hq 2 (by decide) rfl))))) hS9 ?_
 obtain ⟨p12, hi14, hp13⟩ := hb.idx i (by omega) (by decide)
 refine Gp2 2 [17,18] 34 (.slice Ab2 rs.length cb2) 35 (Ni i) hS9 <| Dq 19 rfl (fun _ hS => (Ix (e := 83) 3 rfl rfl hi14)) hS9 <| gdk [(0, .slice Aa qs.length ca), (1, .slice Ab2 rs.length cb2), (5, Ni i), (28, .bool false), (33, Ni q.sure), (36, .pointer (some p12))] <| Gp1 1 [20] 37 (.pointer (some (p12.add 2))) hS9 <| Dq 21 rfl (fun _ hS => (rd_load (by kernel_rfl) rfl (hS.zin _ _ (hp13 2 _ (by decide) (rowC_at filC_len hr 2 (by decide) rfl))))) hS9 <| Gp1 3 [22,23,24] 41 (.bool (((q.sure : Nat) : Int) != ((r.sure : Nat) : Int))) hS9 <| Di 41 rfl (fun hg5 => ?_) (fun hg5 => ?_)
 have hS0 := hg5
 refine Gp1 14 [25,26,27,28,29,30,31,32,33,34,35,36,37,38] 55 (.bool true) hS9 <| gdn [(0, .slice Aa qs.length ca), (1, .slice Ab2 rs.length cb2), (5, Ni i), (55, .bool true)] <| sw_next <| It <| sw_sr <| Go1 1 4 (.bool false) <| Dn <| Rt1 rfl rfl ?_
 first | exact ⟨false, rfl, ⟨fun h => Bool.noConfusion h, fun h => absurd h (map_fst_ne hq hr (fun e9 => hN0 (by rw [show q = r from e9])))⟩, (hH.sb sln).fresh⟩ | exact ⟨false, rfl, ⟨fun h => Bool.noConfusion h, fun h => absurd h (map_fst_ne hq hr (fun e9 => absurd (show q.sure = r.sure by rw [show q = r from e9]) (by omega)))⟩, (hH.sb sln).fresh⟩ | exact ⟨false, rfl, ⟨fun h => Bool.noConfusion h, fun h => absurd h (map_fst_ne hq hr (fun e9 => hB0 (by rw [show q = r from e9])))⟩, (hH.sb sln).fresh⟩ | exact ⟨true, rfl, ⟨fun _ => map_fst_eq hlen (fun j hj => hall j (by omega)), fun _ => rfl⟩, hH.fresh⟩ | exact ⟨false, rfl, ⟨fun h => Bool.noConfusion h, fun h => absurd (congrArg List.length h) (by simp; omega)⟩, hH.fresh⟩
 have hS1 := hg5
 obtain ⟨p15, hi17, hp16⟩ := ha.idx i (by omega) (by decide)
 refine Gp2 2 [25,26] 42 (.slice Aa qs.length ca) 43 (Ni i) hS9 <| Dq 27 rfl (fun _ hS => (Ix (e := 83) 3 rfl rfl hi17)) hS9 <| Gp1 1 [28] 45 (.pointer (some (p15.add 1))) hS9 <| Dq 29 rfl (fun _ hS => (rd_load (by kernel_rfl) rfl (hS.zin _ _ (hp16 1 _ (by decide) (rowC_at filC_len hq 1 (by decide) rfl))))) hS9 <| Dq 30 rfl (fun _ hS => (rd_str (e := 5) (by kernel_rfl) (by kernel_rfl) (by kernel_rfl) rfl (hbx.mono hS.zin))) hS9 ?_
 obtain ⟨p18, hi20, hp19⟩ := hb.idx i (by omega) (by decide)
 refine Gp2 2 [31,32] 48 (.slice Ab2 rs.length cb2) 49 (Ni i) hS9 <| Dq 33 rfl (fun _ hS => (Ix (e := 83) 3 rfl rfl hi20)) hS9 <| Gp1 1 [34] 51 (.pointer (some (p18.add 1))) hS9 <| Dq 35 rfl (fun _ hS => (rd_load (by kernel_rfl) rfl (hS.zin _ _ (hp19 1 _ (by decide) (rowC_at filC_len hr 1 (by decide) rfl))))) hS9 <| Dq 36 rfl (fun _ hS => (rd_str (e := 5) (by kernel_rfl) (by kernel_rfl) (by kernel_rfl) rfl (hby.mono hS.zin))) hS9 <| Dq 37 rfl (fun _ hS => (rd_sneq (by kernel_rfl) rfl rfl)) hS9 <| Gp1 1 [38] 55 (.bool (!(q.b == r.b))) hS9 <| gdn [(0, .slice Aa qs.length ca), (1, .slice Ab2 rs.length cb2), (5, Ni i), (55, .bool (!(q.b == r.b)))] <| sw_next <| If rfl (fun hc7 => ?_) (fun hc7 => ?_)
 have hB0 := hc7
 refine sw_sr <| Go1 1 4 (.bool false) <| Dn <| Rt1 rfl rfl ?_
 first | exact ⟨false, rfl, ⟨fun h => Bool.noConfusion h, fun h => absurd h (map_fst_ne hq hr (fun e9 => hN0 (by rw [show q = r from e9])))⟩, (hH.sb sln).fresh⟩ | exact ⟨false, rfl, ⟨fun h => Bool.noConfusion h, fun h => absurd h (map_fst_ne hq hr (fun e9 => absurd (show q.sure = r.sure by rw [show q = r from e9]) (by omega)))⟩, (hH.sb sln).fresh⟩ | exact ⟨false, rfl, ⟨fun h => Bool.noConfusion h, fun h => absurd h (map_fst_ne hq hr (fun e9 => hB0 (by rw [show q = r from e9])))⟩, (hH.sb sln).fresh⟩ | exact ⟨true, rfl, ⟨fun _ => map_fst_eq hlen (fun j hj => hall j (by omega)), fun _ => rfl⟩, hH.fresh⟩ | exact ⟨false, rfl, ⟨fun h => Bool.noConfusion h, fun h => absurd (congrArg List.length h) (by simp; omega)⟩, hH.fresh⟩
 have hB1 := hc7
 refine sw_skip <| bkN <| sw_next <| sw_region <| Gw0 2 16 ((i : Int) + 1) ((i + 1 : Nat) : Int) <| Go1 1 5 (Ni (i + 1)) <| Dd <| rnd_end (g := (i)) (i + 1) (by kernel_rfl) ?_ ?_
 · exact ⟨by omega, all_nx2 hall hq hr (fil_ext hN1 (Int.ofNat.inj hS1) hB1), hH⟩
 · show qs.length - (i + 1) < qs.length - i; omega
 refine sw_exit <| thX <| thX <| bkH <| sw_next <| sw_sr <| Go1 1 4 (.bool true) <| Dn <| Rt1 rfl rfl ?_
 first | exact ⟨false, rfl, ⟨fun h => Bool.noConfusion h, fun h => absurd h (map_fst_ne hq hr (fun e9 => hN0 (by rw [show q = r from e9])))⟩, (hH.sb sln).fresh⟩ | exact ⟨false, rfl, ⟨fun h => Bool.noConfusion h, fun h => absurd h (map_fst_ne hq hr (fun e9 => absurd (show q.sure = r.sure by rw [show q = r from e9]) (by omega)))⟩, (hH.sb sln).fresh⟩ | exact ⟨false, rfl, ⟨fun h => Bool.noConfusion h, fun h => absurd h (map_fst_ne hq hr (fun e9 => hB0 (by rw [show q = r from e9])))⟩, (hH.sb sln).fresh⟩ | exact ⟨true, rfl, ⟨fun _ => map_fst_eq hlen (fun j hj => hall j (by omega)), fun _ => rfl⟩, hH.fresh⟩ | exact ⟨false, rfl, ⟨fun h => Bool.noConfusion h, fun h => absurd (congrArg List.length h) (by simp; omega)⟩, hH.fresh⟩
end Go.Proofs.YtajapgjemefoiaaGreatDoor
/- Layer 18 (disk), the document's own: find, mod, act, may, set, unset, Arm: what they answer. -/
set_option maxRecDepth 100000
set_option maxHeartbeats 2000000
set_option linter.unusedVariables false
set_option linter.unusedSimpArgs false
namespace Go.Proofs.YtajapgjemefoiaaGreatDoor
open Go.RowKit Go.SW
def actsI : Option (Nat × Int) → Int
  | none => -1
  | some (a, _) => (a : Int)
def PartOk (ar : Option (Nat × Int)) (part : Int) : Prop := ∀ a p, ar = some (a, p) → part = p
def rhdO (xb : Nat) (rv : Value) (off : Bool) (acts part : Int) : Own := .blk xb 72 [rv, .bool off, .int .i64 acts, .int .i64 part]
def fndI (L : FV) (nm : List UInt8) : Nat := L.findIdx fun q => q.1.name == nm
def fndZ (L : FV) (nm : List UInt8) : Int := if fndI L nm < L.length then ((fndI L nm : Nat) : Int) else -1
theorem fnd_at {L : FV} {nm : List UInt8} (h : fndI L nm < L.length) : ∃ q, L[fndI L nm]? = some q ∧ q.1.name = nm := by
  refine ⟨L[fndI L nm], List.getElem?_eq_getElem h, ?_⟩
  have h2 : (L[fndI L nm].1.name == nm) = true := List.findIdx_getElem (xs := L) (p := fun q : Fil × Value => q.1.name == nm) (w := h)
  exact eq_of_beq h2
theorem fnd_none {L : FV} {nm : List UInt8} (h : ¬ fndI L nm < L.length) : ∀ q ∈ L, q.1.name ≠ nm := by
  have h1 : L.findIdx (fun q => q.1.name == nm) = L.length := Nat.le_antisymm List.findIdx_le_length (by unfold fndI at h; omega)
  have := List.findIdx_eq_length.1 h1
  intro q hq
  simpa using this q hq
theorem fnd_is {L : FV} {nm : List UInt8} {i : Nat} {q : Fil × Value} (hi : L[i]? = some q) (hq : q.1.name = nm) (hb : ∀ j : Nat, j < i → ∀ r, L[j]? = some r → r.1.name ≠ nm) : fndI L nm = i := by
  have hil := (List.getElem?_eq_some_iff.1 hi).1
  have hie := (List.getElem?_eq_some_iff.1 hi).2
  unfold fndI
  refine (List.findIdx_eq hil).2 ⟨by rw [hie]; simpa using hq, fun j hj => ?_⟩
  have := hb j hj L[j] (List.getElem?_eq_getElem (by omega))
  simpa using this
theorem fnd_no {L : FV} {nm : List UInt8} (hb : ∀ j : Nat, j < L.length → ∀ r, L[j]? = some r → r.1.name ≠ nm) : fndZ L nm = -1 := by
  unfold fndZ
  rw [if_neg fun h => ?_]
  obtain ⟨q, h1, h2⟩ := fnd_at h
  exact hb _ h q h1 h2
theorem fndZ_is {L : FV} {nm : List UInt8} {i : Nat} {q : Fil × Value} (hi : L[i]? = some q) (hq : q.1.name = nm) (hb : ∀ j : Nat, j < i → ∀ r, L[j]? = some r → r.1.name ≠ nm) : fndZ L nm = ((i : Nat) : Int) := by
  unfold fndZ
  rw [fnd_is hi hq hb, if_pos (List.getElem?_eq_some_iff.1 hi).1]
theorem fnd_get {L : FV} {F : List Fil} (hF : L.map (·.1) = F) (nm : List UInt8) : (L[fndI L nm]?).map (·.1) = getF F nm := by
  subst hF
  unfold getF fndI
  induction L with
  | nil => rfl
  | cons q L ih =>
    rw [List.findIdx_cons, List.map_cons, List.find?_cons]
    cases h : q.1.name == nm
    · simpa using ih
    · rfl
theorem all_nx {p : Nat → Prop} {i : Nat} (h : ∀ j : Nat, j < i → p j) (hi : p i) : ∀ j : Nat, j < i + 1 → p j := fun j hj => (Nat.lt_succ_iff_lt_or_eq.1 hj).elim (h j) (fun e => e ▸ hi)
theorem rmay_eq {D : Dsk} {L : FV} (hF : L.map (·.1) = D.fs) (nm : List UInt8) (there : Bool) : mayE D nm there = if D.off = true then 80 else if nameB nm = false then 1 else if there = true ∧ ¬ fndI L nm < L.length then 81 else 0 := by
  unfold mayE
  have h := fnd_get hF nm
  by_cases hlt : fndI L nm < L.length
  · rw [List.getElem?_eq_getElem hlt] at h
    rw [← h]; simp [hlt]
  · rw [List.getElem?_eq_none (by omega)] at h
    rw [← h]; simp [hlt]
theorem rmod_eq (n : Int) (k : Nat) (hk : 0 < k) : (if n.tmod (k : Int) < 0 then n.tmod (k : Int) + (k : Int) else n.tmod (k : Int)) = ((modI n k : Nat) : Int) := by
  unfold modI
  have h1 : 0 ≤ n % (k : Int) := Int.emod_nonneg n (by omega)
  have h2 : n % (k : Int) < k := Int.emod_lt_of_pos n (by omega)
  rw [Int.toNat_of_nonneg h1]
  have a := Int.tmod_lt_of_pos n (show (0 : Int) < k by omega)
  have b := Int.lt_tmod_of_pos n (show (0 : Int) < k by omega)
  have e1 := Int.emod_add_mul_ediv n k
  have e2 := Int.tmod_add_mul_tdiv n k
  have h3 : (n.tmod (k : Int)) % (k : Int) = n % (k : Int) := by
    rw [Int.tmod_def, show n - ↑k * n.tdiv ↑k = n + ↑k * (-(n.tdiv ↑k)) by rw [Int.mul_neg]; omega, Int.add_mul_emod_self_left]
  rw [← h3]
  split
  · have h4 : (n.tmod (k : Int)) % (k : Int) = n.tmod k + k := by
      rw [← Int.add_emod_right, Int.emod_eq_of_lt (by omega) (by omega)]
    rw [h4]
  · rw [Int.emod_eq_of_lt (by omega) a]

theorem RFind_ct (xb : Nat) (rv : Value) (L : FV) (nm : List UInt8) (w : World) (h0 : w.cell? ⟨xb, 0, none⟩ = some rv) (hR : Row w.cell? rv 3 L.length (rowC filC L)) :
    Fun Tryz.prog 30 [.pointer (some ⟨xb, 0, none⟩), .string (bs nm)] w fun v w' => v = .int .i64 (fndZ L nm) ∧ Fresh w w' [] := by
 obtain ⟨Ar, cr, rfl, hR1, hR2⟩ := hR.form
 simp only [maxLen] at hR2
 refine fun_of_sw Tryz.func30 rfl 26 rfl rfl ?_
 have hH := Hp.start w
 refine sw_sr <| Go0 1 <| Dn <| sw_seq <| sw_sr <| Go1 1 5 (.int .i64 0) <| Dn <| sw_block <| Lp (γ := Nat) hH (fun i => [(0, .pointer (some ⟨xb, 0, none⟩)), (1, .string (bs nm)), (5, Ni i)]) (fun i w_ H_ => (i ≤ L.length) ∧ (∀ j : Nat, j < i → ∀ r, L[j]? = some r → r.1.name ≠ nm) ∧ H_ []) (fun i => L.length - i) (0) ?_ ?_
 · exact ⟨by omega, fun j hj => absurd hj (by omega), hH⟩
 clear hH
 rintro i w1 ⟨hi, hall, hH⟩
 refine swk [(0, .pointer (some ⟨xb, 0, none⟩)), (1, .string (bs nm)), (5, Ni i)] <| sw_seq <| sw_sr <| Go2 4 6 (Ni i) 9 (.pointer (some ⟨xb, 0, none⟩)) <| Gq rfl (rd_load (by kernel_rfl) rfl (hH.zin _ _ h0)) <| Gq rfl (Ln (e := 83) rfl) <| Go1 1 12 (.bool (decide ((i : Int) < ((L.length : Nat) : Int)))) <| Dn <| If rfl (fun hc1 => ?_) (fun hc1 => ?_)
 refine Sk <| sw_seq <| sw_block ?_
 obtain ⟨q, hq⟩ : ∃ q, L[i]? = some q := ⟨_, List.getElem?_eq_getElem (by omega)⟩
 refine sw_sr <| Go1 3 17 (.pointer (some ⟨xb, 0, none⟩)) <| Gq rfl (rd_load (by kernel_rfl) rfl (hH.zin _ _ h0)) ?_
 obtain ⟨p2, hi4, hp3⟩ := hR.idx i (by omega) (by decide)
 refine Go1 1 19 (Ni i) <| Gq rfl (Ix (e := 83) 3 rfl rfl hi4) <| Go1 1 21 (.pointer (some p2)) <| Gq rfl (rd_load (by kernel_rfl) rfl (hH.zin _ _ (hp3 0 _ (by decide) (rowC_at filC_len hq 0 (by decide) rfl)))) <| Go1 1 23 (.string (bs nm)) <| Gq rfl (rd_seql (by kernel_rfl) rfl rfl) <| Dn <| If rfl (fun hc2 => ?_) (fun hc2 => ?_)
 have heq := hc2
 refine sw_sr <| Go1 2 4 (Ni i) <| Dn <| Rt1 rfl rfl ?_
 exact ⟨by rw [fndZ_is hq heq hall], hH.fresh⟩
 have hne := hc2
 refine sw_skip <| bkN <| sw_next <| sw_region <| Gw0 2 14 ((i : Int) + 1) ((i + 1 : Nat) : Int) <| Go1 1 5 (Ni (i + 1)) <| Dd <| rnd_end (g := (i)) (i + 1) (by kernel_rfl) ?_ ?_
 · exact ⟨by omega, all_nx hall (fun r hr => by rw [hq] at hr; cases hr; exact hne), hH⟩
 · show L.length - (i + 1) < L.length - i; omega
 refine sw_exit <| thX <| thX <| bkH <| sw_next <| sw_sr <| Go1 1 4 (.int .i64 (-1)) <| Dn <| Rt1 rfl rfl ?_
 exact ⟨by rw [fnd_no (fun j hj => hall j (by omega))], hH.fresh⟩
theorem RMod_ct (n : Int) (k : Nat) (w : World) (hk : 0 < k) (hk2 : k ≤ 2305843009213693951) :
    Fun Tryz.prog 32 [.int .i64 n, .int .i64 ((k : Nat) : Int)] w fun v w' => v = .int .i64 ((modI n k : Nat) : Int) ∧ Fresh w w' [] := by
 have h1 := Int.tmod_lt_of_pos n (show (0 : Int) < k by omega)
 have h2 := Int.lt_tmod_of_pos n (show (0 : Int) < k by omega)
 have h3 := rmod_eq n k hk
 refine fun_of_sw Tryz.func32 rfl 15 rfl rfl ?_
 have hH := Hp.start w
 refine sw_sr <| Go0 1 <| Dn <| sw_sr <| Go2 2 6 (.int .i64 n) 7 (Ni k) <| Gq rfl (rd_remI (a := n) (b := k) rfl rfl hk) <| Go1 1 5 (.int .i64 (Int.tmod n ((k : Nat) : Int))) <| Dn <| sw_seq <| sw_sr <| Go1 2 10 (.bool (decide ((Int.tmod n ((k : Nat) : Int)) < (0 : Int)))) <| Dn <| If rfl (fun hc1 => ?_) (fun hc1 => ?_)
 refine sw_region <| Gw0 3 13 ((Int.tmod n ((k : Nat) : Int)) + (k : Int)) ((Int.tmod n ((k : Nat) : Int)) + (k : Int)) <| Go1 1 5 (.int .i64 ((Int.tmod n ((k : Nat) : Int)) + (k : Int))) <| Dd <| sw_next <| sw_sr <| Go1 2 4 (.int .i64 ((Int.tmod n ((k : Nat) : Int)) + (k : Int))) <| Dn <| Rt1 rfl rfl ?_
 exact ⟨by rw [← h3]; first | rw [if_pos (by omega)] | rw [if_neg (by omega)], hH.fresh⟩
 refine Sk <| sw_sr <| Go1 2 4 (.int .i64 (Int.tmod n ((k : Nat) : Int))) <| Dn <| Rt1 rfl rfl ?_
 exact ⟨by rw [← h3]; first | rw [if_pos (by omega)] | rw [if_neg (by omega)], hH.fresh⟩
theorem RAct0_ct (xb : Nat) (rv : Value) (fs : List Fil) (pw : Bool) (part : Int) (w : World) (hM : Mine w [rhdO xb rv pw (actsI none) part]) :
    Fun Tryz.prog 31 [.pointer (some ⟨xb, 0, none⟩)] w fun v w' => v = .bool (cutD (⟨fs, pw, none⟩ : Dsk)).2.1 ∧ Turn w w' [rhdO xb rv pw (actsI none) part] [rhdO xb rv ((cutD (⟨fs, pw, none⟩ : Dsk)).1.off) (actsI ((cutD (⟨fs, pw, none⟩ : Dsk)).1.ar)) part] := by
 refine fun_of_sw Tryz.func31 rfl 26 rfl rfl ?_
 have hH := Hp.start_mine hM
 replace hH : Hp w w _ _ [.blk xb 72 [rv, .bool pw, .int .i64 (-1), .int .i64 part]] := hH
 refine sw_sr <| Go0 1 <| Dn <| sw_seq <| sw_sr <| Go1 3 5 (Pp xb 2) <| Gq rfl (Lk 0 hH rfl rfl rfl) <| Go1 1 7 (.bool (decide ((-1) < (0 : Int)))) <| Dn <| If rfl (fun hc1 => ?_) (fun hc1 => absurd hc1 (by omega))
 clear hc1
 refine sw_sr <| Go1 1 2 (.bool false) <| Dn <| Rt1 rfl rfl ?_
 exact ⟨rfl, hH.turned⟩
theorem RAct1_ct (xb : Nat) (rv : Value) (fs : List Fil) (pw : Bool) (p : Int) (part : Int) (w : World) (hM : Mine w [rhdO xb rv pw (actsI (some (0, p))) part]) :
    Fun Tryz.prog 31 [.pointer (some ⟨xb, 0, none⟩)] w fun v w' => v = .bool (cutD (⟨fs, pw, some (0, p)⟩ : Dsk)).2.1 ∧ Turn w w' [rhdO xb rv pw (actsI (some (0, p))) part] [rhdO xb rv ((cutD (⟨fs, pw, some (0, p)⟩ : Dsk)).1.off) (actsI ((cutD (⟨fs, pw, some (0, p)⟩ : Dsk)).1.ar)) part] := by
 refine fun_of_sw Tryz.func31 rfl 26 rfl rfl ?_
 have hH := Hp.start_mine hM
 replace hH : Hp w w _ _ [.blk xb 72 [rv, .bool pw, .int .i64 0, .int .i64 part]] := hH
 refine sw_sr <| Go0 1 <| Dn <| sw_seq <| sw_sr <| Go1 3 5 (Pp xb 2) <| Gq rfl (Lk 0 hH rfl rfl rfl) <| Go1 1 7 (.bool false) <| Dn <| Iz <| sw_skip <| sw_next <| sw_seq <| sw_sr <| Go1 3 10 (Pp xb 2) <| Gq rfl (Lk 0 hH rfl rfl rfl) <| Go1 1 12 (.bool false) <| Dn <| Iz <| sw_skip <| sw_next <| sw_sr <| Go1 3 22 (Pp xb 2) <| gl_st (Ks 0 (.int .i64 (-1)) rfl hH rfl rfl ?_)
 clear hH; intro w1 hH
 refine Dn <| sw_sr <| Go1 3 25 (Pp xb 1) <| gl_st (Ks 0 (.bool true) rfl hH rfl rfl ?_)
 clear hH; intro w2 hH
 refine Dn <| sw_sr <| Go1 1 2 (.bool true) <| Dn <| Rt1 rfl rfl ?_
 exact ⟨rfl, hH.turned⟩
theorem RAct2_ct (xb : Nat) (rv : Value) (fs : List Fil) (pw : Bool) (a : Nat) (p : Int) (part : Int) (w : World) (hM : Mine w [rhdO xb rv pw (actsI (some (a + 1, p))) part]) (ha : a + 1 ≤ 9223372036854775807) :
    Fun Tryz.prog 31 [.pointer (some ⟨xb, 0, none⟩)] w fun v w' => v = .bool (cutD (⟨fs, pw, some (a + 1, p)⟩ : Dsk)).2.1 ∧ Turn w w' [rhdO xb rv pw (actsI (some (a + 1, p))) part] [rhdO xb rv ((cutD (⟨fs, pw, some (a + 1, p)⟩ : Dsk)).1.off) (actsI ((cutD (⟨fs, pw, some (a + 1, p)⟩ : Dsk)).1.ar)) part] := by
 refine fun_of_sw Tryz.func31 rfl 26 rfl rfl ?_
 have hH := Hp.start_mine hM
 replace hH : Hp w w _ _ [.blk xb 72 [rv, .bool pw, Ni (a + 1), .int .i64 part]] := hH
 refine sw_sr <| Go0 1 <| Dn <| sw_seq <| sw_sr <| Go1 3 5 (Pp xb 2) <| Gq rfl (Lk 0 hH rfl rfl rfl) <| Go1 1 7 (.bool (decide (((a + 1 : Nat) : Int) < (0 : Int)))) <| Dn <| If rfl (fun hc1 => absurd hc1 (by omega)) (fun hc1 => ?_)
 clear hc1
 refine Sk <| sw_seq <| sw_sr <| Go1 3 10 (Pp xb 2) <| Gq rfl (Lk 0 hH rfl rfl rfl) <| Go1 1 12 (.bool (decide (((a + 1 : Nat) : Int) > (0 : Int)))) <| Dn <| If rfl (fun hc2 => ?_) (fun hc2 => absurd hc2 (by omega))
 clear hc2
 refine sw_sr <| Go2 3 13 (Pp xb 0) 15 (Pp xb 2) <| Gq rfl (Lk 0 hH rfl rfl rfl) <| Gw0 1 17 (((a + 1 : Nat) : Int) - 1) (a : Int) <| Go1 2 19 (Pp xb 2) <| gl_st (Ks 0 (Ni a) rfl hH rfl rfl ?_)
 clear hH; intro w1 hH
 refine Dn <| sw_sr <| Go1 1 2 (.bool false) <| Dn <| Rt1 rfl rfl ?_
 exact ⟨rfl, hH.turned⟩
theorem RAct_ct (xb : Nat) (rv : Value) (D D2 : Dsk) (cu : Bool) (pt part : Int) (w : World) (hc : cutD D = (D2, cu, pt)) (hA : ArOk D.ar) (hM : Mine w [rhdO xb rv D.off (actsI D.ar) part]) :
    Fun Tryz.prog 31 [.pointer (some ⟨xb, 0, none⟩)] w fun v w' => v = .bool cu ∧ Turn w w' [rhdO xb rv D.off (actsI D.ar) part] [rhdO xb rv D2.off (actsI D2.ar) part] := by
  have h1 : cutD D = (D2, cu, pt) := hc
  have e1 : D2 = (cutD D).1 := by rw [h1]
  have e2 : cu = (cutD D).2.1 := by rw [h1]
  subst e1 e2
  obtain ⟨fs, pw, ar⟩ := D
  match ar, hA, hM with
  | none, _, hM => exact RAct0_ct xb rv fs pw part w hM
  | some (0, p), _, hM => exact RAct1_ct xb rv fs pw p part w hM
  | some (a + 1, p), hA, hM => exact RAct2_ct xb rv fs pw a p part w hM (hA _ _ rfl)
theorem cut_part {D D2 : Dsk} {cu : Bool} {pt part : Int} (hc : cutD D = (D2, cu, pt)) (hP : PartOk D.ar part) (h : cu = true) : pt = part := by
  obtain ⟨fs, pw, ar⟩ := D
  match ar, hc, hP with
  | none, hc, _ => cases hc; cases h
  | some (0, p), hc, hP => cases hc; exact (hP _ _ rfl).symm
  | some (a + 1, p), hc, _ => cases hc; cases h
theorem part_cut {D : Dsk} {part : Int} (hP : PartOk D.ar part) : PartOk (cutD D).1.ar part := by
  obtain ⟨fs, pw, ar⟩ := D
  match ar, hP with
  | none, _ => intro a p e; cases e
  | some (0, p), _ => intro a p e; cases e
  | some (a + 1, p), hP => intro b q e; cases e; exact hP _ _ rfl

theorem RMay18_ct (xb : Nat) (rv : Value) (L : FV) (D : Dsk) (nm : List UInt8) (there : Bool) (w : World) (h0 : w.cell? ⟨xb, 0, none⟩ = some rv) (h1 : w.cell? ⟨xb, 1, none⟩ = some (.bool D.off)) (hR : Row w.cell? rv 3 L.length (rowC filC L)) (hF : L.map (·.1) = D.fs) (hs : nm.length ≤ 140737488355328) :
    Fun Tryz.prog 29 [.pointer (some ⟨xb, 0, none⟩), .string (bs nm), .bool there] w fun v w' => v = .int .i64 ((mayE D nm there : Nat) : Int) ∧ Fresh w w' [] := by
 refine fun_of_sw Tryz.func29 rfl 23 rfl rfl ?_
 have hH := Hp.start w
 refine sw_sr <| Go0 1 <| Dn <| sw_seq <| sw_sr <| Go1 3 10 (.pointer (some ⟨xb, 1, none⟩)) <| Gq rfl (rd_load (by kernel_rfl) rfl (hH.zin _ _ h1)) <| Dn <| If rfl (fun hc1 => ?_) (fun hc1 => ?_)
 refine sw_sr <| Go1 1 6 (.int .i64 80) <| Dn <| Rt1 rfl rfl ?_
 exact ⟨by rw [rmay_eq hF, if_pos hc1]; rfl, hH.fresh⟩
 refine Sk <| sw_sr <| Go1 1 12 (.string (bs nm)) <| gl_st (Sc rfl rfl (RName_ct nm _ hs) ?_)
 rintro _ w1 ⟨rfl, hF2⟩
 replace hH := hH.call hF2
 refine Go1 1 7 (.bool (nameB nm)) <| Dn <| sw_seq <| sw_sr <| Go1 2 15 (.bool (!(nameB nm))) <| Dn <| If rfl (fun hc2 => ?_) (fun hc2 => ?_)
 have hb : nameB nm = false := by simpa using hc2
 refine sw_sr <| Go1 1 6 (.int .i64 1) <| Dn <| Rt1 rfl rfl ?_
 exact ⟨by rw [rmay_eq hF, if_neg (by rw [hc1]; simp), if_pos hb]; rfl, hH.fresh⟩
 have hb : ¬ nameB nm = false := by simpa using hc2
 refine Sk <| sw_seq <| sw_sr <| Go1 2 17 (.bool there) <| Gi 17 rfl (fun hg3 => ?_) (fun hg3 => ?_)
 refine Go2 2 18 (.pointer (some ⟨xb, 0, none⟩)) 19 (.string (bs nm)) <| gl_st (Sc rfl rfl (RFind_ct xb rv L nm _ (hH.zin _ _ h0) (hR.mono hH.zin)) ?_)
 rintro _ w3 ⟨rfl, hF4⟩
 replace hH := hH.call hF4
 refine Go1 2 22 (.bool (decide ((fndZ L nm) < (0 : Int)))) <| Dn <| If rfl (fun hc4 => ?_) (fun hc4 => ?_)
 have hlt : ¬ fndI L nm < L.length := by intro h9; unfold fndZ at hc4; rw [if_pos h9] at hc4; omega
 refine sw_sr <| Go1 1 6 (.int .i64 81) <| Dn <| Rt1 rfl rfl ?_
 exact ⟨by rw [rmay_eq hF, if_neg (by rw [hc1]; simp), if_neg hb, if_pos ⟨hg3, hlt⟩]; rfl, hH.fresh⟩
 have hlt : fndI L nm < L.length := by refine Classical.byContradiction fun h9 => ?_; unfold fndZ at hc4; rw [if_neg h9] at hc4; omega
 refine Sk <| sw_sr <| Go1 1 6 (.int .i64 0) <| Dn <| Rt1 rfl rfl ?_
 exact ⟨by rw [rmay_eq hF, if_neg (by rw [hc1]; simp), if_neg hb, if_neg (fun h => h.2 hlt)]; rfl, hH.fresh⟩
 refine Go1 5 22 (.bool false) <| Dn <| Iz <| sw_skip <| sw_next <| sw_sr <| Go1 1 6 (.int .i64 0) <| Dn <| Rt1 rfl rfl ?_
 exact ⟨by rw [rmay_eq hF, if_neg (by rw [hc1]; simp), if_neg hb, if_neg (fun h => by rw [hg3] at h; cases h.1)]; rfl, hH.fresh⟩
end Go.Proofs.YtajapgjemefoiaaGreatDoor
/- Layer 18 (disk), the document's own: set, unset, Arm, Read: what they answer. -/
set_option maxRecDepth 100000
set_option maxHeartbeats 2000000
set_option linter.unusedVariables false
set_option linter.unusedSimpArgs false
namespace Go.Proofs.YtajapgjemefoiaaGreatDoor
open Go.RowKit Go.SW
def insK (L : FV) (nm : List UInt8) : Nat := L.findIdx fun q => !decide (q.1.name < nm)
def setL (L : FV) (g : Fil × Value) : FV := if fndI L g.1.name < L.length then L.set (fndI L g.1.name) g else L.take (insK L g.1.name) ++ [g] ++ L.drop (insK L g.1.name)
def delL (L : FV) (nm : List UInt8) : FV := L.take (fndI L nm) ++ L.drop (fndI L nm + 1)
theorem insK_is {L : FV} {nm : List UInt8} {k : Nat} (hk : k ≤ L.length) (hb : ∀ j : Nat, j < k → ∀ r, L[j]? = some r → r.1.name < nm) (he : k = L.length ∨ ∃ q, L[k]? = some q ∧ ¬ q.1.name < nm) : insK L nm = k := by
  unfold insK
  rcases he with he | ⟨q, hq, hn⟩
  · subst he
    refine List.findIdx_eq_length.2 fun q hq => ?_
    obtain ⟨j, hj⟩ := List.getElem?_of_mem hq
    have := hb j (List.getElem?_eq_some_iff.1 hj).1 q hj
    simpa using this
  · have hil := (List.getElem?_eq_some_iff.1 hq).1
    refine (List.findIdx_eq hil).2 ⟨by rw [(List.getElem?_eq_some_iff.1 hq).2]; simpa using hn, fun j hj => ?_⟩
    have := hb j hj L[j] (List.getElem?_eq_getElem (by omega))
    simpa using this
theorem insK_lt {L : FV} {nm : List UInt8} {j : Nat} {r : Fil × Value} (h : j < insK L nm) (hr : L[j]? = some r) : r.1.name < nm := by
  have h1 := List.not_of_lt_findIdx h
  rw [(List.getElem?_eq_some_iff.1 hr).2] at h1
  simpa using h1
theorem insK_at {L : FV} {nm : List UInt8} {r : Fil × Value} (hr : L[insK L nm]? = some r) : ¬ r.1.name < nm := by
  have h2 : (!decide ((L[insK L nm]'(List.getElem?_eq_some_iff.1 hr).1).1.name < nm)) = true := List.findIdx_getElem (xs := L) (p := fun q : Fil × Value => !decide (q.1.name < nm)) (w := (List.getElem?_eq_some_iff.1 hr).1)
  rw [(List.getElem?_eq_some_iff.1 hr).2] at h2
  simpa using h2
theorem srt_names {F G : List Fil} (h : Srt F) (e : F.map (·.name) = G.map (·.name)) : Srt G := by
  unfold Srt at h ⊢
  rw [← List.pairwise_map (f := fun f : Fil => f.name) (R := fun a b => a < b)] at h ⊢
  rw [← e]; exact h
theorem setL_fs {L : FV} {F : List Fil} (hF : L.map (·.1) = F) (hS : Srt F) (g : Fil × Value) : (setL L g).map (·.1) = setF F g.1 := by
  subst hF
  unfold setL
  split
  · rename_i hlt
    obtain ⟨q, h1, h2⟩ := fnd_at hlt
    rw [List.map_set]
    have hq : (L.map (·.1))[fndI L g.1.name]? = some q.1 := by rw [List.getElem?_map, h1]; rfl
    refine (setF_at hS hq h2.symm (srt_names hS ?_)).symm
    rw [List.map_set, ← h2]
    apply List.ext_getElem?
    intro j
    rw [List.getElem?_set]
    split
    · rename_i e
      subst e
      have := (List.getElem?_eq_some_iff.1 hq).1
      rw [if_pos (by rw [h2]; simpa using this), List.getElem?_map, h2, hq]; simp [h2]
    · rfl
  · rename_i hlt
    have hne := fnd_none hlt
    have hsrt : Srt ((L.take (insK L g.1.name) ++ [g] ++ L.drop (insK L g.1.name)).map (·.1)) := by
      have hS2 : Srt ((L.take (insK L g.1.name)).map (·.1) ++ (L.drop (insK L g.1.name)).map (·.1)) := by rw [← List.map_append, List.take_append_drop]; exact hS
      obtain ⟨s1, s2, s3⟩ := List.pairwise_append.1 hS2
      have hd : ∀ r ∈ L.drop (insK L g.1.name), g.1.name < r.1.name := by
        intro r hr
        obtain ⟨j, hj⟩ := List.getElem?_of_mem hr
        rw [List.getElem?_drop] at hj
        have hr2 := List.mem_of_getElem? hj
        have hkl : insK L g.1.name < L.length := by have := (List.getElem?_eq_some_iff.1 hj).1; omega
        obtain ⟨r0, h0⟩ : ∃ r0, L[insK L g.1.name]? = some r0 := ⟨_, List.getElem?_eq_getElem hkl⟩
        have hn0 := insK_at h0
        have hlt0 : g.1.name < r0.1.name := by
          rcases bl_tri g.1.name r0.1.name with h | h | h
          · exact h
          · exact absurd h.symm (hne r0 (List.mem_of_getElem? h0))
          · exact absurd h hn0
        by_cases hj0 : j = 0
        · subst hj0; rw [Nat.add_zero, h0] at hj; cases hj; exact hlt0
        · have := List.pairwise_iff_getElem.1 hS (insK L g.1.name) (insK L g.1.name + j) (by simpa using hkl) (by simpa using (List.getElem?_eq_some_iff.1 hj).1) (by omega)
          simp only [List.getElem_map] at this
          rw [(List.getElem?_eq_some_iff.1 h0).2, (List.getElem?_eq_some_iff.1 hj).2] at this
          exact bl_trans hlt0 this
      have ht : ∀ r ∈ L.take (insK L g.1.name), r.1.name < g.1.name := by
        intro r hr
        obtain ⟨j, hj⟩ := List.getElem?_of_mem hr
        rw [List.getElem?_take] at hj
        split at hj
        · rename_i h; exact insK_lt h hj
        · cases hj
      rw [List.append_assoc, List.map_append, List.map_append]
      refine List.pairwise_append.2 ⟨s1, List.pairwise_cons.2 ⟨fun f hf => ?_, s2⟩, fun a ha b hb => ?_⟩
      · obtain ⟨r, hr, rfl⟩ := List.mem_map.1 hf
        exact hd r hr
      · obtain ⟨r, hr, rfl⟩ := List.mem_map.1 ha
        rcases List.mem_cons.1 hb with rfl | hb
        · exact ht r hr
        · exact s3 _ ha _ hb
    refine srt_eq hsrt (srt_set hS g.1) (perm_of_mem (srt_nodup hsrt) (srt_nodup (srt_set hS g.1)) fun f => ?_)
    rw [mem_set, List.map_append, List.map_append, List.append_assoc, List.mem_append, List.mem_append]
    have hall : f ∈ L.map (·.1) ↔ f ∈ (L.take (insK L g.1.name)).map (·.1) ∨ f ∈ (L.drop (insK L g.1.name)).map (·.1) := by rw [← List.mem_append, ← List.map_append, List.take_append_drop]
    rw [hall]
    have hnm : ∀ f ∈ L.map (·.1), f.name ≠ g.1.name := fun f hf => by obtain ⟨r, hr, rfl⟩ := List.mem_map.1 hf; exact hne r hr
    constructor
    · rintro (h | h | h)
      · exact .inr ⟨.inl h, hnm f (hall.2 (.inl h))⟩
      · exact .inl (by simpa using h)
      · exact .inr ⟨.inr h, hnm f (hall.2 (.inr h))⟩
    · rintro (h | ⟨h | h, _⟩)
      · exact .inr (.inl (by simpa using h))
      · exact .inl h
      · exact .inr (.inr h)
theorem delL_eq (L : FV) (nm : List UInt8) : delL L nm = L.eraseIdx (fndI L nm) := by unfold delL; rw [List.eraseIdx_eq_take_drop_succ]
theorem delL_fs {L : FV} {F : List Fil} (hF : L.map (·.1) = F) (hS : Srt F) {nm : List UInt8} (hlt : fndI L nm < L.length) : (delL L nm).map (·.1) = delF F nm := by
  subst hF
  obtain ⟨q, h1, h2⟩ := fnd_at hlt
  rw [delL_eq]
  have hsub : ((L.eraseIdx (fndI L nm)).map (·.1)).Sublist (L.map (·.1)) := (List.eraseIdx_sublist _ _).map _
  have hsrt : Srt ((L.eraseIdx (fndI L nm)).map (·.1)) := hS.sublist hsub
  refine srt_eq hsrt (srt_del hS nm) (perm_of_mem (srt_nodup hsrt) (srt_nodup (srt_del hS nm)) fun f => ?_)
  have hp : L.Perm (q :: L.eraseIdx (fndI L nm)) := (perm_erase L _ q h1).symm
  have hn2 := (((hp.map (·.1)).map (·.name)).nodup_iff.1 (srt_nodup hS))
  rw [List.map_cons, List.map_cons, List.nodup_cons] at hn2
  rw [mem_del, (hp.map (·.1)).mem_iff, List.map_cons, List.mem_cons]
  constructor
  · intro hm
    exact ⟨.inr hm, fun e4 => hn2.1 (List.mem_map.2 ⟨f, hm, e4.trans h2.symm⟩)⟩
  · rintro ⟨rfl | hm, h6⟩
    · exact absurd h2 h6
    · exact hm
def SlQ (L : FV) : Prop := ∀ q ∈ L, ∃ A l c, q.2 = .slice A l c
theorem fil_one {L : FV} (hV : SlQ L) : ∀ u ∈ rowC filC L, u.oneCell' = true := by
  intro u hu
  obtain ⟨c, hc, hu2⟩ := List.mem_flatten.1 hu
  obtain ⟨q, hq, rfl⟩ := List.mem_map.1 hc
  obtain ⟨A, l, cp, e⟩ := hV q hq
  simp only [filC, e, List.mem_cons, List.not_mem_nil, or_false] at hu2
  rcases hu2 with rfl | rfl | rfl <;> rfl
abbrev lstO (rv : Value) (L : FV) : Own := .row rv 83 3 L.length (rowC filC L)

theorem RSet_ct (xb : Nat) (rv : Value) (L : FV) (g : Fil × Value) (pw : Bool) (acts part : Int) (w : World) (hM : Mine w [rhdO xb rv pw acts part, lstO rv L]) (hv : ∃ A l c, g.2 = .slice A l c) (hV : SlQ L) (hN : L.length ≤ 1000000) :
    Fun Tryz.prog 34 [.pointer (some ⟨xb, 0, none⟩), .agg #[.string (bs g.1.name), g.2, .int .i64 ((g.1.sure : Nat) : Int)]] w fun v w' => ∃ rv', v = .tuple #[] ∧ Turn w w' [rhdO xb rv pw acts part, lstO rv L] [rhdO xb rv' pw acts part, lstO rv' (setL L g)] := by
 obtain ⟨Ar, cr, rfl, hcr1, hcr2⟩ := (Row.of_own (hM.1 (lstO rv L) (by simp))).form
 have hcr3 := hcr2
 simp only [maxLen] at hcr3
 obtain ⟨f, gv⟩ := g
 obtain ⟨Ag, lg, cg, hgv⟩ := hv
 simp only at hgv
 subst hgv
 refine fun_of_sw Tryz.func34 rfl 64 rfl rfl ?_
 have hH := Hp.start_mine hM
 replace hH : Hp w w _ _ [.blk xb 72 [.slice Ar L.length cr, .bool pw, .int .i64 acts, .int .i64 part], .row (.slice Ar L.length cr) 83 3 L.length (rowC filC L)] := hH
 refine sw_sr <| gl_st (Bx [.string (bs f.name), .slice Ag lg cg, Ni f.sure] rfl hH ?_)
 clear hH; intro b1 w2 hH
 refine Dn <| sw_sr <| Go2 2 6 (Pp xb 0) 7 (Pp b1 0) <| Gq rfl (Lk 2 hH rfl rfl rfl) <| gl_st (Sc rfl rfl (RFind_ct xb _ L f.name _ (hH.blk_cell 0 rfl rfl) (hH.row_reads 1 rfl)) ?_)
 rintro _ w3 ⟨rfl, hF4⟩
 replace hH := hH.call hF4
 refine Go1 1 4 (.int .i64 (fndZ L f.name)) <| Dn <| sw_seq <| sw_sr <| Go1 2 11 (.bool (decide ((fndZ L f.name) ≥ (0 : Int)))) <| Dn <| If rfl (fun hc1 => ?_) (fun hc1 => ?_)
 have hlt : fndI L f.name < L.length := by refine Classical.byContradiction fun h9 => ?_; unfold fndZ at hc1; rw [if_neg h9] at hc1; omega
 refine sw_cv 4 (Ni (fndI L f.name)) (by unfold fndZ; rw [if_pos hlt]) rfl <| sw_seq <| Dr hH (slk (slc (slk sln))) ?_
 clear hH; intro w5 hH hS9
 refine Gp1 3 [0,1,2] 14 (Pp xb 0) hS9 <| Dq 3 rfl (fun _ hS => (Lk 0 hS rfl rfl rfl)) hS9 <| Gp1 1 [4] 16 (Ni (fndI L f.name)) hS9 <| Dq 5 rfl (fun _ hS => (La 1 [.string (bs f.name), .slice Ag lg cg, Ni f.sure] hS rfl rfl)) hS9 ?_
 obtain ⟨b7, hb6, hi8⟩ := hH.row_idx 1 rfl (fndI L f.name) (by omega)
 refine Dq 6 rfl (fun _ hS => (Ix (e := 83) 3 rfl rfl hi8)) hS9 <| gds 7 (st_storeOA (vs := [.string (bs f.name), .slice Ag lg cg, Ni f.sure]) 1 rfl rfl rfl hH rfl rfl rfl (by kernel_rfl) rfl hb6 (by rw [rowC_len filC_len]; show fndI L f.name * 3 + 3 ≤ _; omega) ?_)
 clear hH; intro w9 hH
 replace hH := hH.row_eq 1 (l' := L.length) (xs' := rowC filC (L.set (fndI L f.name) (f, .slice Ag lg cg))) rfl (rfl) (rowC_set filC_len (x := (f, Value.slice Ag lg cg)) hlt)
 refine Nl (hH.sb (slk (slc (slk sln)))) fun hS9 => gdn [] <| sw_next <| Rt0 rfl ?_
 replace hH := (hH.sb (slk (slk sln))).n2
 have hset : setL L (f, Value.slice Ag lg cg) = L.set (fndI L f.name) (f, Value.slice Ag lg cg) := by unfold setL; rw [if_pos hlt]
 exact ⟨_, rfl, (hH.cast (by rw [hset, lstO, List.length_set]; rfl)).turned⟩
 have hlt : ¬ fndI L f.name < L.length := by intro h9; unfold fndZ at hc1; rw [if_pos h9] at hc1; omega
 refine Sk <| sw_sr <| Go1 1 5 (.slice none 0 0) <| Dn <| sw_sr <| Go1 1 4 (.int .i64 0) <| Dn <| Cu (γ := Nat) hH (fun k => [(0, Pp xb 0), (3, Pp b1 0), (4, Ni k), (5, .slice none 0 0)]) (fun k w_ H_ => (insK L f.name = k) ∧ (k ≤ L.length) ∧ H_ [.blk xb 72 [.slice Ar L.length cr, .bool pw, .int .i64 acts, .int .i64 part], .row (.slice Ar L.length cr) 83 3 L.length (rowC filC L), .blk b1 83 [.string (bs f.name), .slice Ag lg cg, Ni f.sure]]) ?_ ?_
 ·
  refine sw_block <| Lp (γ := Nat) hH (fun k => [(0, Pp xb 0), (3, Pp b1 0), (4, Ni k), (5, .slice none 0 0)]) (fun k w_ H_ => (k ≤ L.length) ∧ (∀ j : Nat, j < k → ∀ r, L[j]? = some r → r.1.name < f.name) ∧ H_ [.blk xb 72 [.slice Ar L.length cr, .bool pw, .int .i64 acts, .int .i64 part], .row (.slice Ar L.length cr) 83 3 L.length (rowC filC L), .blk b1 83 [.string (bs f.name), .slice Ag lg cg, Ni f.sure]]) (fun k => L.length - k) (0) ?_ ?_
  · exact ⟨by omega, fun j hj => absurd hj (by omega), hH⟩
  clear hH
  rintro k w10 ⟨hk, hall, hH⟩
  refine swk [(0, Pp xb 0), (3, Pp b1 0), (4, Ni k), (5, .slice none 0 0)] <| sw_seq <| sw_seq <| Dr hH (slk (slk (slk sln))) ?_
  clear hH; intro w11 hH hS9
  refine Gp2 4 [0,1,2,3] 19 (Ni k) 22 (Pp xb 0) hS9 <| Dq 4 rfl (fun _ hS => (Lk 0 hS rfl rfl rfl)) hS9 <| Dq 5 rfl (fun _ hS => (Ln (e := 83) rfl)) hS9 <| Gp1 2 [6,7] 26 (.bool (decide ((k : Int) < ((L.length : Nat) : Int)))) hS9 <| Di 26 rfl (fun hg2 => ?_) (fun hg2 => ?_)
  obtain ⟨q, hq⟩ : ∃ q, L[k]? = some q := ⟨_, List.getElem?_eq_getElem (by omega)⟩
  refine Gp1 3 [8,9,10] 29 (Pp xb 0) hS9 <| Dq 11 rfl (fun _ hS => (Lk 0 hS rfl rfl rfl)) hS9 ?_
  obtain ⟨b13, hb12, hi14⟩ := hH.row_idx 1 rfl k (by omega)
  refine Gp1 1 [12] 31 (Ni k) hS9 <| Dq 13 rfl (fun _ hS => (Ix (e := 83) 3 rfl rfl hi14)) hS9 <| Gp1 1 [14] 33 (Pp b13 (k * 3)) hS9 <| Dq 15 rfl (fun _ hS => (Lo 1 hS rfl rfl hb12 (rowC_at filC_len hq 0 (by decide) rfl))) hS9 <| Gp1 1 [16] 35 (Pp b1 0) hS9 <| Dq 17 rfl (fun _ hS => (Lk 2 hS rfl rfl rfl)) hS9 <| Dq 18 rfl (fun _ hS => (rd_slss (by kernel_rfl) rfl rfl)) hS9 <| Gp1 1 [19] 38 (.bool (decide (q.1.name < f.name))) hS9 <| gdn [(0, Pp xb 0), (3, Pp b1 0), (4, Ni k), (5, .slice none 0 0), (38, .bool (decide (q.1.name < f.name)))] <| sw_next <| sw_cond rfl rfl (fun hc3 => ?_) (fun hc3 => ?_)
  replace hc3 := of_decide_eq_true hc3
  have hlts := hc3
  refine Sk <| sw_block <| sw_region <| Gw0 2 40 ((k : Int) + 1) ((k + 1 : Nat) : Int) <| Go1 1 4 (Ni (k + 1)) <| Dd <| bkN <| rnd_end (g := (k)) (k + 1) (by kernel_rfl) ?_ ?_
  · exact ⟨by omega, all_nx hall (fun r hr => by rw [hq] at hr; cases hr; exact hlts), hH⟩
  · show L.length - (k + 1) < L.length - k; omega
  replace hc3 := of_decide_eq_false hc3
  refine sw_exit <| thX <| thX <| bkH <| Ce (k) ?_
  exact ⟨insK_is hk hall (.inr ⟨q, hq, hc3⟩), hk, hH⟩
  refine Gp1 12 [8,9,10,11,12,13,14,15,16,17,18,19] 38 (.bool false) hS9 <| gdn [(0, Pp xb 0), (3, Pp b1 0), (4, Ni k), (5, .slice none 0 0), (38, .bool false)] <| sw_next <| Iz <| sw_exit <| thX <| thX <| bkH <| Ce (k) ?_
  exact ⟨insK_is hk hall (.inl (by omega)), hk, hH⟩
 clear hH
 rintro k w15 ⟨hins, hkl, hH⟩
 refine swk [(0, Pp xb 0), (3, Pp b1 0), (4, Ni k), (5, .slice none 0 0)] <| sw_sr <| Go2 4 41 (.slice none 0 0) 44 (Pp xb 0) <| Gq rfl (Lk 0 hH rfl rfl rfl) ?_
 obtain ⟨A16, hk17, hv18⟩ := hH.row_win 1 rfl 0 k cr (by omega) (by omega) (by omega) (by omega)
 refine Go1 1 46 (Ni k) <| Gq rfl (rd_cut (e := 83) (m := 3) (by kernel_rfl) (by kernel_rfl) rfl (.inl ⟨rfl, rfl⟩) (.inr ⟨_, _, rfl, rfl⟩) hk17) ?_
 replace hH := hH.nilRow 83 3
 refine gl_st (Apd (e := 83) (.agg #[.string (bs []), .slice none 0 0, .int .i64 0]) 3 48 3 rfl hH rfl rfl rfl (Win.reads hH 1 rfl hv18 (by omega) (by omega) (by omega)) (fun u hu => fil_one hV u (List.mem_of_mem_drop (List.mem_of_mem_take hu))) (by unfold maxLen; omega) (by omega) ?_)
 clear hH; intro v19 w20 hH
 replace hH := hH.row_eq 3 (l' := (L.take k).length) (xs' := rowC filC (L.take k)) rfl (by rw [List.length_take]; omega) (by simp [rowC_take filC_len])
 obtain ⟨A21, c22, rfl, hl23, hm24⟩ := hH.row_form 3 rfl
 refine Go1 1 5 (.slice A21 ((L.take k).length) c22) <| Dn <| sw_sr <| Go1 1 49 (.slice A21 ((L.take k).length) c22) <| Gq rfl (La 2 [.string (bs f.name), .slice Ag lg cg, Ni f.sure] hH rfl rfl) <| gl_st (st_buildS (e := 83) (zv := .agg #[.string (bs []), .slice none 0 0, .int .i64 0]) (m := 3) (bytes := 48) rfl rfl rfl (by kernel_rfl) (by kernel_rfl) rfl (cs := [.string (bs f.name), .slice Ag lg cg, Ni f.sure]) (by kernel_rfl) rfl hH ?_)
 clear hH; intro b25 w26 hH
 refine gl_st (Apd (e := 83) (.agg #[.string (bs []), .slice none 0 0, .int .i64 0]) 3 48 3 rfl hH rfl rfl rfl (hH.row_reads 4 rfl) (by simp [Value.oneCell']) (by rw [List.length_take]; unfold maxLen; omega) (by rw [List.length_take]; omega) ?_)
 clear hH; intro v27 w28 hH
 replace hH := hH.row_eq 3 (l' := (L.take k ++ [(f, Value.slice Ag lg cg)]).length) (xs' := rowC filC (L.take k ++ [(f, Value.slice Ag lg cg)])) rfl (by simp) (by rw [← rowC_app, rowC_one]; rfl)
 obtain ⟨A29, c30, rfl, hl31, hm32⟩ := hH.row_form 3 rfl
 refine Go1 1 5 (.slice A29 ((L.take k ++ [(f, Value.slice Ag lg cg)]).length) c30) <| Dn <| sw_region <| Go3 5 53 (Pp xb 0) 54 (.slice A29 ((L.take k ++ [(f, Value.slice Ag lg cg)]).length) c30) 57 (Pp xb 0) <| Gq rfl (Lk 0 hH rfl rfl rfl) ?_
 obtain ⟨A33, hk34, hv35⟩ := hH.row_win 1 rfl k L.length cr (by omega) (by omega) (by omega) (by omega)
 refine Go1 1 59 (Ni k) <| Gq rfl (rd_cut (e := 83) (m := 3) (by kernel_rfl) (by kernel_rfl) rfl (.inr ⟨_, _, rfl, rfl⟩) (.inl ⟨rfl, rfl⟩) hk34) <| gl_st (Apd (e := 83) (.agg #[.string (bs []), .slice none 0 0, .int .i64 0]) 3 48 3 rfl hH rfl rfl rfl (Win.reads hH 1 rfl hv35 (by omega) (by omega) (by omega)) (fun u hu => fil_one hV u (List.mem_of_mem_drop (List.mem_of_mem_take hu))) (by simp only [List.length_append, List.length_take, List.length_singleton]; unfold maxLen; omega) (by simp only [List.length_append, List.length_take, List.length_singleton]; omega) ?_)
 clear hH; intro v36 w37 hH
 replace hH := hH.row_eq 3 (l' := (L.take k ++ [(f, Value.slice Ag lg cg)] ++ L.drop k).length) (xs' := rowC filC (L.take k ++ [(f, Value.slice Ag lg cg)] ++ L.drop k)) rfl (by simp; omega) (by rw [← rowC_app filC (L.take k ++ [(f, Value.slice Ag lg cg)]) (L.drop k)]; congr 1; rw [rowC_drop filC_len, List.take_of_length_le (by rw [rowC_len filC_len, List.length_drop]; omega)])
 obtain ⟨A38, c39, rfl, hl40, hm41⟩ := hH.row_form 3 rfl
 refine Go1 2 63 (Pp xb 0) <| gl_st (Ks 0 (.slice A38 ((L.take k ++ [(f, Value.slice Ag lg cg)] ++ L.drop k).length) c39) rfl hH rfl rfl ?_)
 clear hH; intro w42 hH
 refine Dd <| end0 rfl ?_
 replace hH := hH.fr4.fr2
 replace hH := (hH.sb (slk (slk sln))).n2
 have hset : setL L (f, Value.slice Ag lg cg) = L.take k ++ [(f, Value.slice Ag lg cg)] ++ L.drop k := by unfold setL; rw [if_neg hlt, hins]
 exact ⟨_, rfl, (hH.cast (by rw [hset]; rfl)).turned⟩
theorem RUnset_ct (xb : Nat) (rv : Value) (L : FV) (nm : List UInt8) (pw : Bool) (acts part : Int) (w : World) (hM : Mine w [rhdO xb rv pw acts part, lstO rv L]) (hlt : fndI L nm < L.length) (hV : SlQ L) (hN : L.length ≤ 1000000) :
    Fun Tryz.prog 33 [.pointer (some ⟨xb, 0, none⟩), .string (bs nm)] w fun v w' => ∃ rv', v = .tuple #[] ∧ Turn w w' [rhdO xb rv pw acts part, lstO rv L] [rhdO xb rv' pw acts part, lstO rv' (delL L nm)] := by
 obtain ⟨Ar, cr, rfl, hcr1, hcr2⟩ := (Row.of_own (hM.1 (lstO rv L) (by simp))).form
 have hcr3 := hcr2
 simp only [maxLen] at hcr3
 refine fun_of_sw Tryz.func33 rfl 29 rfl rfl ?_
 have hH := Hp.start_mine hM
 replace hH : Hp w w _ _ [.blk xb 72 [.slice Ar L.length cr, .bool pw, .int .i64 acts, .int .i64 part], .row (.slice Ar L.length cr) 83 3 L.length (rowC filC L)] := hH
 refine sw_sr <| Go2 2 6 (Pp xb 0) 7 (.string (bs nm)) <| gl_st (Sc rfl rfl (RFind_ct xb _ L nm _ (hH.blk_cell 0 rfl rfl) (hH.row_reads 1 rfl)) ?_)
 rintro _ w1 ⟨rfl, hF2⟩
 replace hH := hH.call hF2
 refine gl_cv 8 (Ni (fndI L nm)) (by unfold fndZ; rw [if_pos hlt]) rfl ?_
 have hfz : fndZ L nm = ((fndI L nm : Nat) : Int) := by unfold fndZ; rw [if_pos hlt]
 refine Go1 1 4 (Ni (fndI L nm)) <| Dn <| sw_sr <| Go1 1 5 (.slice none 0 0) <| Dn <| sw_seq <| Dr hH (slk (slk sln)) ?_
 clear hH; intro w3 hH hS9
 refine Gp2 4 [0,1,2,3] 9 (.slice none 0 0) 12 (Pp xb 0) hS9 <| Dq 4 rfl (fun _ hS => (Lk 0 hS rfl rfl rfl)) hS9 ?_
 obtain ⟨A4, hk5, hv6⟩ := hH.row_win 1 rfl 0 (fndI L nm) cr (by omega) (by omega) (by omega) (by omega)
 refine Gp1 1 [5] 14 (Ni (fndI L nm)) hS9 <| Dq 6 rfl (fun _ hS => (rd_cut (e := 83) (m := 3) (by kernel_rfl) (by kernel_rfl) rfl (.inl ⟨rfl, rfl⟩) (.inr ⟨_, _, rfl, rfl⟩) hk5)) hS9 <| Gp1 3 [8,9,10] 19 (Pp xb 0) hS9 <| Dq 11 rfl (fun _ hS => (Lk 0 hS rfl rfl rfl)) hS9 <| Dw1 2 [12,13] 22 (((fndI L nm : Nat) : Int) + 1) (((fndI L nm) + 1 : Nat) : Int) 21 (Ni (fndI L nm)) hS9 ?_
 obtain ⟨A7, hk8, hv9⟩ := hH.row_win 1 rfl ((fndI L nm) + 1) L.length cr (by omega) (by omega) (by omega) (by omega)
 refine Dq 14 rfl (fun _ hS => (rd_cut (e := 83) (m := 3) (by kernel_rfl) (by kernel_rfl) rfl (.inr ⟨_, _, rfl, rfl⟩) (.inl ⟨rfl, rfl⟩) hk8)) hS9 ?_
 replace hH := hH.nilRow 83 3
 refine gds 7 (Apd (e := 83) (.agg #[.string (bs []), .slice none 0 0, .int .i64 0]) 3 48 2 rfl hH rfl rfl rfl (Win.reads hH 1 rfl hv6 (by omega) (by omega) (by omega)) (fun u hu => fil_one hV u (List.mem_of_mem_drop (List.mem_of_mem_take hu))) (by unfold maxLen; omega) (by omega) ?_)
 clear hH; intro v10 w11 hH
 replace hH := hH.row_eq 2 (l' := (L.take (fndI L nm)).length) (xs' := rowC filC (L.take (fndI L nm))) rfl (by simp only [List.length_take]; omega) (by simp [rowC_take filC_len])
 obtain ⟨A12, c13, rfl, hl14, hm15⟩ := hH.row_form 2 rfl
 refine Nl (hH.sb (slk (slk sln))) fun hS9 => gds 15 (Apd (e := 83) (.agg #[.string (bs []), .slice none 0 0, .int .i64 0]) 3 48 2 rfl hH rfl rfl rfl (Win.reads hH 1 rfl hv9 (by omega) (by omega) (by omega)) (fun u hu => fil_one hV u (List.mem_of_mem_drop (List.mem_of_mem_take hu))) (by rw [List.length_take]; unfold maxLen; omega) (by rw [List.length_take]; omega) ?_)
 clear hH; intro v16 w17 hH
 replace hH := hH.row_eq 2 (l' := (L.take (fndI L nm) ++ L.drop (fndI L nm + 1)).length) (xs' := rowC filC (L.take (fndI L nm) ++ L.drop (fndI L nm + 1))) rfl (by first | (simp only [List.length_append, List.length_take, List.length_drop]; done) | (simp only [List.length_append, List.length_take, List.length_drop]; omega)) (by rw [← rowC_app filC (L.take (fndI L nm)) (L.drop (fndI L nm + 1))]; congr 1; rw [rowC_drop filC_len]; exact List.take_of_length_le (by rw [rowC_len filC_len, List.length_drop]; omega))
 obtain ⟨A18, c19, rfl, hl20, hm21⟩ := hH.row_form 2 rfl
 refine Nl (hH.sb (slk (slk sln))) fun hS9 => Gp1 1 [16] 5 (.slice A18 ((L.take (fndI L nm) ++ L.drop (fndI L nm + 1)).length) c19) hS9 <| gdn [(0, Pp xb 0), (5, .slice A18 ((L.take (fndI L nm) ++ L.drop (fndI L nm + 1)).length) c19)] <| sw_next <| sw_region <| Go2 4 26 (.slice A18 ((L.take (fndI L nm) ++ L.drop (fndI L nm + 1)).length) c19) 28 (Pp xb 0) <| gl_st (Ks 0 (.slice A18 ((L.take (fndI L nm) ++ L.drop (fndI L nm + 1)).length) c19) rfl hH rfl rfl ?_)
 clear hH; intro w22 hH
 refine Dd <| end0 rfl ?_
 replace hH := hH.fr3.fr2
 replace hH := (hH.sb (slk (slk sln))).n2
 exact ⟨_, rfl, (hH.cast (by unfold delL; rfl)).turned⟩
def rdkO (xb : Nat) (rv : Value) (pw : Bool) (acts part : Int) (L : FV) : List Own := [rhdO xb rv pw acts part, lstO rv L, filRs L]
theorem filRs_rb {w w0 : World} {z : Zone} {F : List Nat} {os : List Own} (hH : Hp w0 w z F os) (k : Nat) {L : FV} (hk : os[k]? = some (filRs L)) {i : Nat} {f : Fil} {v : Value} (hq : L[i]? = some (f, v)) : RB w.cell? v f.b := by
  have h : ∀ o ∈ L.map filR, o.at w := hH.own _ (List.mem_of_getElem? hk)
  have h1 : (filR (f, v)).at w := h _ (List.mem_map.2 ⟨(f, v), List.mem_of_getElem? hq, rfl⟩)
  exact Row.of_own h1
theorem filRs_sl {w : World} {L : FV} (h : (filRs L).at w) : SlQ L := by
  intro q hq
  have h1 : (filR q).at w := h _ (List.mem_map.2 ⟨q, hq, rfl⟩)
  obtain ⟨A, c, e, _⟩ := (Row.of_own h1).form
  exact ⟨A, _, c, e⟩
theorem rdk_read {D : Dsk} {L : FV} (hF : L.map (·.1) = D.fs) {nm : List UInt8} (h : mayE D nm true = 0) : ∃ f fv, L[fndI L nm]? = some (f, fv) ∧ f.name = nm ∧ fndI L nm < L.length ∧ oldF D.fs nm = f := by
  have hlt : fndI L nm < L.length := by
    refine Classical.byContradiction fun hn => ?_
    rw [rmay_eq hF] at h
    split at h
    · omega
    split at h
    · omega
    rw [if_pos ⟨rfl, hn⟩] at h
    omega
  obtain ⟨⟨f, fv⟩, h1, h2⟩ := fnd_at hlt
  refine ⟨f, fv, h1, h2, hlt, ?_⟩
  unfold oldF
  rw [← fnd_get hF, h1]; rfl

end Go.Proofs.YtajapgjemefoiaaGreatDoor
