/- Layer 18 (disk), the document's own: Same, New: what they answer. -/
import Derived.Test.YtjcchjgkkplamaaGreatDoorRDisk2
set_option maxRecDepth 100000
set_option maxHeartbeats 4000000
set_option linter.unusedVariables false
set_option linter.unusedSimpArgs false
namespace Go.Proofs.YtjcchjgkkplamaaGreatDoor
open Go.RowKit Go.SW
theorem map_fst_eq {qs rs : FV} (hl : qs.length = rs.length) (h : ∀ j : Nat, j < qs.length → ∀ q r, qs[j]? = some q → rs[j]? = some r → q.1 = r.1) : qs.map (·.1) = rs.map (·.1) := by
  apply List.ext_getElem?
  intro j
  rw [List.getElem?_map, List.getElem?_map]
  by_cases hj : j < qs.length
  · rw [List.getElem?_eq_getElem hj, List.getElem?_eq_getElem (show j < rs.length by omega)]
    simp only [Option.map_some]
    rw [h j hj _ _ (List.getElem?_eq_getElem hj) (List.getElem?_eq_getElem (by omega))]
  · rw [List.getElem?_eq_none (by omega), List.getElem?_eq_none (by omega)]
theorem map_fst_ne {qs rs : FV} {j : Nat} {q r : Fil × Value} (hq : qs[j]? = some q) (hr : rs[j]? = some r) (h : q.1 ≠ r.1) : ¬ qs.map (·.1) = rs.map (·.1) := by
  intro e
  have := congrArg (fun l => l[j]?) e
  simp only [List.getElem?_map, hq, hr, Option.map_some, Option.some.injEq] at this
  exact h this
theorem fil_ext {f g : Fil} (h1 : f.name = g.name) (h2 : f.sure = g.sure) (h3 : f.b = g.b) : f = g := by
  cases f; cases g; simp_all
theorem all_nx2 {qs rs : FV} {i : Nat} (h : ∀ j : Nat, j < i → ∀ q r, qs[j]? = some q → rs[j]? = some r → q.1 = r.1) {q r : Fil × Value} (hq : qs[i]? = some q) (hr : rs[i]? = some r) (e : q.1 = r.1) : ∀ j : Nat, j < i + 1 → ∀ q r, qs[j]? = some q → rs[j]? = some r → q.1 = r.1 := fun j hj q' r' h1 h2 => by
  rcases Nat.lt_succ_iff_lt_or_eq.1 hj with h3 | rfl
  · exact h j h3 q' r' h1 h2
  · rw [hq] at h1; rw [hr] at h2; cases h1; cases h2; exact e
section
variable {w w0 : World} {z : Zone} {F : List Nat} {os : List Own} {xb : Nat} {rv : Value} {pw : Bool} {acts part : Int} {L : FV}
theorem rdk_own (hH : Hp w0 w z F os) (k : Nat) (hk : os[k]? = some (.grp (rdkO xb rv pw acts part L))) : ∀ o ∈ rdkO xb rv pw acts part L, o.at w := hH.own _ (List.mem_of_getElem? hk)
theorem rdk_c0 (hH : Hp w0 w z F os) (k : Nat) (hk : os[k]? = some (.grp (rdkO xb rv pw acts part L))) : w.cell? ⟨xb, 0, none⟩ = some rv := by
  have h : w.heap[xb]? = some (.cells #[rv, .bool pw, .int .i64 acts, .int .i64 part] 55 (0, 0)) := rdk_own hH k hk (rhdO xb rv pw acts part) (by simp [rdkO])
  simp [World.cell?, h]
theorem rdk_c1 (hH : Hp w0 w z F os) (k : Nat) (hk : os[k]? = some (.grp (rdkO xb rv pw acts part L))) : w.cell? ⟨xb, 1, none⟩ = some (.bool pw) := by
  have h : w.heap[xb]? = some (.cells #[rv, .bool pw, .int .i64 acts, .int .i64 part] 55 (0, 0)) := rdk_own hH k hk (rhdO xb rv pw acts part) (by simp [rdkO])
  simp [World.cell?, h]
theorem rdk_rw (hH : Hp w0 w z F os) (k : Nat) (hk : os[k]? = some (.grp (rdkO xb rv pw acts part L))) : Row w.cell? rv 3 L.length (rowC filC L) := Row.of_own (rdk_own hH k hk (lstO rv L) (by simp [rdkO]))
theorem rs_rbs (hH : Hp w0 w z F os) (k : Nat) (hk : os[k]? = some (filRs L)) : ∀ q ∈ L, RB w.cell? q.2 q.1.b := by
  intro q hq
  have h : ∀ o ∈ L.map filR, o.at w := hH.own _ (List.mem_of_getElem? hk)
  exact Row.of_own (h (filR q) (List.mem_map.2 ⟨q, hq, rfl⟩))
theorem rdk_rbs (hH : Hp w0 w z F os) (k : Nat) (hk : os[k]? = some (.grp (rdkO xb rv pw acts part L))) : ∀ q ∈ L, RB w.cell? q.2 q.1.b := by
  intro q hq
  have h1 : ∀ o ∈ L.map filR, o.at w := rdk_own hH k hk (filRs L) (by simp [rdkO])
  exact Row.of_own (h1 (filR q) (List.mem_map.2 ⟨q, hq, rfl⟩))
end

theorem Same18_ct (va vb : Value) (qs rs : FV) (w : World) (ha : Row w.cell? va 3 qs.length (rowC filC qs)) (hb : Row w.cell? vb 3 rs.length (rowC filC rs)) (hqa : ∀ q ∈ qs, RB w.cell? q.2 q.1.b) (hqb : ∀ q ∈ rs, RB w.cell? q.2 q.1.b) :
    Fun Tryz.prog 21 [va, vb] w fun v w' => ∃ b, v = .bool b ∧ (b = true ↔ qs.map (·.1) = rs.map (·.1)) ∧ Fresh w w' [] := by
  obtain ⟨Aa, ca, rfl, ha1, ha2⟩ := ha.form
  obtain ⟨Ab2, cb2, rfl, hb1, hb2⟩ := hb.form
  have ha3 := ha2
  simp only [maxLen] at ha3
  refine fun_of_sw Tryz.func21 rfl 56 rfl rfl ?_
  have hH := Hp.start w
  refine sw_sr ?_
  refine gl_ops 1 [(0, .slice Aa qs.length ca), (1, .slice Ab2 rs.length cb2)] (by kernel_rfl) ?_
  refine gl_dn rfl ?_
  refine sw_seq ?_
  refine sw_sr ?_
  refine gl_ops 1 [(0, .slice Aa qs.length ca), (1, .slice Ab2 rs.length cb2), (6, .slice Aa qs.length ca)] (by kernel_rfl) ?_
  refine gl_q rfl rfl rfl (rd_len (e := 93) (by kernel_rfl) rfl) ?_
  refine gl_ops 1 [(0, .slice Aa qs.length ca), (1, .slice Ab2 rs.length cb2), (7, Ni qs.length), (8, .slice Ab2 rs.length cb2)] (by kernel_rfl) ?_
  refine gl_q rfl rfl rfl (rd_len (e := 93) (by kernel_rfl) rfl) ?_
  refine gl_ops 1 [(0, .slice Aa qs.length ca), (1, .slice Ab2 rs.length cb2), (10, .bool (((qs.length : Nat) : Int) != ((rs.length : Nat) : Int)))] (by kernel_rfl) ?_
  refine gl_dn rfl ?_
  refine sw_cond rfl rfl (fun hc1 => ?_) (fun hc1 => ?_)
  ·
    try simp only [bne_iff_ne, ne_eq] at hc1
    refine sw_sr ?_
    refine gl_ops 1 [(4, .bool false)] (by kernel_rfl) ?_
    refine gl_dn rfl ?_
    refine sw_ret ?_
    refine thR ?_
    refine ret1 rfl rfl  ?_
    first | exact ⟨false, rfl, ⟨fun h => Bool.noConfusion h, fun h => absurd h (map_fst_ne hq hr (fun e9 => hN0 (by rw [show q = r from e9])))⟩, (hH.sublist (List.nil_sublist _)).fresh⟩ | exact ⟨false, rfl, ⟨fun h => Bool.noConfusion h, fun h => absurd h (map_fst_ne hq hr (fun e9 => absurd (show q.sure = r.sure by rw [show q = r from e9]) (by omega)))⟩, (hH.sublist (List.nil_sublist _)).fresh⟩ | exact ⟨false, rfl, ⟨fun h => Bool.noConfusion h, fun h => absurd h (map_fst_ne hq hr (fun e9 => hB0 (by rw [show q = r from e9])))⟩, (hH.sublist (List.nil_sublist _)).fresh⟩ | exact ⟨true, rfl, ⟨fun _ => map_fst_eq hlen (fun j hj => hall j (by omega)), fun _ => rfl⟩, hH.fresh⟩ | exact ⟨false, rfl, ⟨fun h => Bool.noConfusion h, fun h => absurd (congrArg List.length h) (by simp; omega)⟩, hH.fresh⟩
  try simp only [bne_eq_false_iff_eq] at hc1
  have hlen : qs.length = rs.length := by omega
  refine sw_skip ?_
  refine sw_next ?_
  refine sw_seq ?_
  refine sw_sr ?_
  refine gl_ops 1 [(0, .slice Aa qs.length ca), (1, .slice Ab2 rs.length cb2), (5, .int .i64 0)] (by kernel_rfl) ?_
  refine gl_dn rfl ?_
  refine sw_block ?_
  refine sw_loop (γ := Nat) (fun i => [(0, .slice Aa qs.length ca), (1, .slice Ab2 rs.length cb2), (5, Ni i)]) (fun i w_ => (i ≤ qs.length) ∧ (∀ j : Nat, j < i → ∀ q r, qs[j]? = some q → rs[j]? = some r → q.1 = r.1) ∧ Hp w w_ (w.cell?) [] []) (fun i => qs.length - i) (0) (Sub.of_eq (by kernel_rfl)) ?_ ?_
  · exact ⟨by omega, fun j hj => absurd hj (by omega), hH⟩
  clear hH
  rintro i w1 ⟨hi, hall, hH⟩
  refine sw_keep [(0, .slice Aa qs.length ca), (1, .slice Ab2 rs.length cb2), (5, Ni i)] (by kernel_rfl) ?_
  refine sw_seq ?_
  refine sw_sr ?_
  refine gl_ops 2 [(0, .slice Aa qs.length ca), (1, .slice Ab2 rs.length cb2), (5, Ni i), (11, Ni i), (12, .slice Aa qs.length ca)] (by kernel_rfl) ?_
  refine gl_q rfl rfl rfl (rd_len (e := 93) (by kernel_rfl) rfl) ?_
  refine gl_ops 1 [(0, .slice Aa qs.length ca), (1, .slice Ab2 rs.length cb2), (5, Ni i), (14, .bool (decide (((i : Nat) : Int) < ((qs.length : Nat) : Int))))] (by kernel_rfl) ?_
  refine gl_dn rfl ?_
  refine sw_cond rfl rfl (fun hc2 => ?_) (fun hc2 => ?_)
  ·
    try simp only [decide_eq_true_eq] at hc2
    refine sw_skip ?_
    refine sw_next ?_
    refine sw_seq ?_
    refine sw_block ?_
    refine sw_seq ?_
    obtain ⟨⟨q, uq⟩, hq⟩ : ∃ x, qs[i]? = some x := ⟨_, List.getElem?_eq_getElem (by omega)⟩
    have hbx : RB w.cell? uq q.b := hqa _ (List.mem_of_getElem? hq)
    obtain ⟨Ax, cx, rfl, hkx, hmx⟩ := hbx.row.form
    obtain ⟨⟨r, ur⟩, hr⟩ : ∃ x, rs[i]? = some x := ⟨_, List.getElem?_eq_getElem (by omega)⟩
    have hby : RB w.cell? ur r.b := hqb _ (List.mem_of_getElem? hr)
    obtain ⟨Ay, cy, rfl, hky, hmy⟩ := hby.row.form
    refine sw_draw (by kernel_rfl) (fun w_ => Hp w w_ (w.cell?) [] []) ?_
    replace hH := hH.drew
    generalize { w1 with drawn := w1.drawn + 1 } = w2 at hH ⊢
    have hS9 := hH.sublist (List.nil_sublist _)
    refine gd_pure 0 rfl (by kernel_rfl) (PQ.th (PQ.bk (PQ.th (PQ.th (PQ.bk (PQ.th PQ.body)))))) hS9 rfl rfl (.slice Aa qs.length ca) (by kernel_rfl) ?_
    refine gd_pure 1 rfl (by kernel_rfl) (PQ.th (PQ.bk (PQ.th (PQ.th (PQ.bk (PQ.th PQ.body)))))) hS9 rfl rfl (Ni i) (by kernel_rfl) ?_
    obtain ⟨p3, hi5, hp4⟩ := ha.idx i (by omega) (by decide)
    refine gd_q 2 rfl (by kernel_rfl) (PQ.th (PQ.bk (PQ.th (PQ.th (PQ.bk (PQ.th PQ.body)))))) hS9 rfl rfl (fun w_ hS => (rd_idx (e := 93) (m := 3) (by kernel_rfl) (by kernel_rfl) rfl rfl hi5)) ?_
    refine gd_keep [(0, .slice Aa qs.length ca), (1, .slice Ab2 rs.length cb2), (5, Ni i), (19, .pointer (some p3))] (by kernel_rfl) ?_
    refine gd_pure 3 rfl (by kernel_rfl) (PQ.th (PQ.bk (PQ.th (PQ.th (PQ.bk (PQ.th PQ.body)))))) hS9 rfl rfl (.pointer (some p3)) (by kernel_rfl) ?_
    refine gd_q 4 rfl (by kernel_rfl) (PQ.th (PQ.bk (PQ.th (PQ.th (PQ.bk (PQ.th PQ.body)))))) hS9 rfl rfl (fun w_ hS => (rd_load (by kernel_rfl) rfl (hS.zin _ _ (hp4 0 _ (by decide) (rowC_at filC_len hq 0 (by decide) rfl))))) ?_
    refine gd_pure 5 rfl (by kernel_rfl) (PQ.th (PQ.bk (PQ.th (PQ.th (PQ.bk (PQ.th PQ.body)))))) hS9 rfl rfl (.slice Ab2 rs.length cb2) (by kernel_rfl) ?_
    refine gd_keep [(0, .slice Aa qs.length ca), (1, .slice Ab2 rs.length cb2), (5, Ni i), (21, .string (bs q.name)), (22, .slice Ab2 rs.length cb2)] (by kernel_rfl) ?_
    refine gd_pure 6 rfl (by kernel_rfl) (PQ.th (PQ.bk (PQ.th (PQ.th (PQ.bk (PQ.th PQ.body)))))) hS9 rfl rfl (Ni i) (by kernel_rfl) ?_
    obtain ⟨p6, hi8, hp7⟩ := hb.idx i (by omega) (by decide)
    refine gd_q 7 rfl (by kernel_rfl) (PQ.th (PQ.bk (PQ.th (PQ.th (PQ.bk (PQ.th PQ.body)))))) hS9 rfl rfl (fun w_ hS => (rd_idx (e := 93) (m := 3) (by kernel_rfl) (by kernel_rfl) rfl rfl hi8)) ?_
    refine gd_pure 8 rfl (by kernel_rfl) (PQ.th (PQ.bk (PQ.th (PQ.th (PQ.bk (PQ.th PQ.body)))))) hS9 rfl rfl (.pointer (some p6)) (by kernel_rfl) ?_
    refine gd_keep [(0, .slice Aa qs.length ca), (1, .slice Ab2 rs.length cb2), (5, Ni i), (21, .string (bs q.name)), (25, .pointer (some p6))] (by kernel_rfl) ?_
    refine gd_q 9 rfl (by kernel_rfl) (PQ.th (PQ.bk (PQ.th (PQ.th (PQ.bk (PQ.th PQ.body)))))) hS9 rfl rfl (fun w_ hS => (rd_load (by kernel_rfl) rfl (hS.zin _ _ (hp7 0 _ (by decide) (rowC_at filC_len hr 0 (by decide) rfl))))) ?_
    refine gd_q 10 rfl (by kernel_rfl) (PQ.th (PQ.bk (PQ.th (PQ.th (PQ.bk (PQ.th PQ.body)))))) hS9 rfl rfl (fun w_ hS => (rd_sneq (by kernel_rfl) rfl rfl)) ?_
    refine gd_pure 11 rfl (by kernel_rfl) (PQ.th (PQ.bk (PQ.th (PQ.th (PQ.bk (PQ.th PQ.body)))))) hS9 rfl rfl (.bool (!(q.name == r.name))) (by kernel_rfl) ?_
    refine gd_keep [(0, .slice Aa qs.length ca), (1, .slice Ab2 rs.length cb2), (5, Ni i), (28, .bool (!(q.name == r.name)))] (by kernel_rfl) ?_
    refine gd_split 28 (b := !(q.name == r.name)) rfl (fun hg3 => ?_) (fun hg3 => ?_)
    ·
      try simp only [Bool.not_eq_true', beq_eq_false_iff_ne, ne_eq] at hg3
      have hN0 := hg3
      refine gd_not 12 rfl (by kernel_rfl) (PQ.th (PQ.bk (PQ.th (PQ.th (PQ.bk (PQ.th PQ.body)))))) hS9 rfl rfl ?_
      refine gd_not 13 rfl (by kernel_rfl) (PQ.th (PQ.bk (PQ.th (PQ.th (PQ.bk (PQ.th PQ.body)))))) hS9 rfl rfl ?_
      refine gd_not 14 rfl (by kernel_rfl) (PQ.th (PQ.bk (PQ.th (PQ.th (PQ.bk (PQ.th PQ.body)))))) hS9 rfl rfl ?_
      refine gd_keep [(0, .slice Aa qs.length ca), (1, .slice Ab2 rs.length cb2), (5, Ni i), (28, .bool true), (31, undef)] (by kernel_rfl) ?_
      refine gd_not 15 rfl (by kernel_rfl) (PQ.th (PQ.bk (PQ.th (PQ.th (PQ.bk (PQ.th PQ.body)))))) hS9 rfl rfl ?_
      refine gd_not 16 rfl (by kernel_rfl) (PQ.th (PQ.bk (PQ.th (PQ.th (PQ.bk (PQ.th PQ.body)))))) hS9 rfl rfl ?_
      refine gd_not 17 rfl (by kernel_rfl) (PQ.th (PQ.bk (PQ.th (PQ.th (PQ.bk (PQ.th PQ.body)))))) hS9 rfl rfl ?_
      refine gd_keep [(0, .slice Aa qs.length ca), (1, .slice Ab2 rs.length cb2), (5, Ni i), (28, .bool true), (33, undef), (34, undef)] (by kernel_rfl) ?_
      refine gd_not 18 rfl (by kernel_rfl) (PQ.th (PQ.bk (PQ.th (PQ.th (PQ.bk (PQ.th PQ.body)))))) hS9 rfl rfl ?_
      refine gd_not 19 rfl (by kernel_rfl) (PQ.th (PQ.bk (PQ.th (PQ.th (PQ.bk (PQ.th PQ.body)))))) hS9 rfl rfl ?_
      refine gd_not 20 rfl (by kernel_rfl) (PQ.th (PQ.bk (PQ.th (PQ.th (PQ.bk (PQ.th PQ.body)))))) hS9 rfl rfl ?_
      refine gd_keep [(0, .slice Aa qs.length ca), (1, .slice Ab2 rs.length cb2), (5, Ni i), (28, .bool true), (33, undef), (37, undef)] (by kernel_rfl) ?_
      refine gd_not 21 rfl (by kernel_rfl) (PQ.th (PQ.bk (PQ.th (PQ.th (PQ.bk (PQ.th PQ.body)))))) hS9 rfl rfl ?_
      refine gd_not 22 rfl (by kernel_rfl) (PQ.th (PQ.bk (PQ.th (PQ.th (PQ.bk (PQ.th PQ.body)))))) hS9 rfl rfl ?_
      refine gd_pure 23 rfl (by kernel_rfl) (PQ.th (PQ.bk (PQ.th (PQ.th (PQ.bk (PQ.th PQ.body)))))) hS9 rfl rfl (.bool true) (by kernel_rfl) ?_
      refine gd_keep [(0, .slice Aa qs.length ca), (1, .slice Ab2 rs.length cb2), (5, Ni i), (40, .bool true)] (by kernel_rfl) ?_
      refine gd_pure 24 rfl (by kernel_rfl) (PQ.th (PQ.bk (PQ.th (PQ.th (PQ.bk (PQ.th PQ.body)))))) hS9 rfl rfl (.bool true) (by kernel_rfl) ?_
      refine gd_not 25 rfl (by kernel_rfl) (PQ.th (PQ.bk (PQ.th (PQ.th (PQ.bk (PQ.th PQ.body)))))) hS9 rfl rfl ?_
      refine gd_not 26 rfl (by kernel_rfl) (PQ.th (PQ.bk (PQ.th (PQ.th (PQ.bk (PQ.th PQ.body)))))) hS9 rfl rfl ?_
      refine gd_keep [(0, .slice Aa qs.length ca), (1, .slice Ab2 rs.length cb2), (5, Ni i), (41, .bool true), (42, undef), (43, undef)] (by kernel_rfl) ?_
      refine gd_not 27 rfl (by kernel_rfl) (PQ.th (PQ.bk (PQ.th (PQ.th (PQ.bk (PQ.th PQ.body)))))) hS9 rfl rfl ?_
      refine gd_not 28 rfl (by kernel_rfl) (PQ.th (PQ.bk (PQ.th (PQ.th (PQ.bk (PQ.th PQ.body)))))) hS9 rfl rfl ?_
      refine gd_not 29 rfl (by kernel_rfl) (PQ.th (PQ.bk (PQ.th (PQ.th (PQ.bk (PQ.th PQ.body)))))) hS9 rfl rfl ?_
      refine gd_keep [(0, .slice Aa qs.length ca), (1, .slice Ab2 rs.length cb2), (5, Ni i), (41, .bool true), (46, undef)] (by kernel_rfl) ?_
      refine gd_not 30 rfl (by kernel_rfl) (PQ.th (PQ.bk (PQ.th (PQ.th (PQ.bk (PQ.th PQ.body)))))) hS9 rfl rfl ?_
      refine gd_not 31 rfl (by kernel_rfl) (PQ.th (PQ.bk (PQ.th (PQ.th (PQ.bk (PQ.th PQ.body)))))) hS9 rfl rfl ?_
      refine gd_not 32 rfl (by kernel_rfl) (PQ.th (PQ.bk (PQ.th (PQ.th (PQ.bk (PQ.th PQ.body)))))) hS9 rfl rfl ?_
      refine gd_keep [(0, .slice Aa qs.length ca), (1, .slice Ab2 rs.length cb2), (5, Ni i), (41, .bool true), (47, undef), (48, undef), (49, undef)] (by kernel_rfl) ?_
      refine gd_not 33 rfl (by kernel_rfl) (PQ.th (PQ.bk (PQ.th (PQ.th (PQ.bk (PQ.th PQ.body)))))) hS9 rfl rfl ?_
      refine gd_not 34 rfl (by kernel_rfl) (PQ.th (PQ.bk (PQ.th (PQ.th (PQ.bk (PQ.th PQ.body)))))) hS9 rfl rfl ?_
      refine gd_not 35 rfl (by kernel_rfl) (PQ.th (PQ.bk (PQ.th (PQ.th (PQ.bk (PQ.th PQ.body)))))) hS9 rfl rfl ?_
      refine gd_keep [(0, .slice Aa qs.length ca), (1, .slice Ab2 rs.length cb2), (5, Ni i), (41, .bool true), (47, undef), (52, undef)] (by kernel_rfl) ?_
      refine gd_not 36 rfl (by kernel_rfl) (PQ.th (PQ.bk (PQ.th (PQ.th (PQ.bk (PQ.th PQ.body)))))) hS9 rfl rfl ?_
      refine gd_not 37 rfl (by kernel_rfl) (PQ.th (PQ.bk (PQ.th (PQ.th (PQ.bk (PQ.th PQ.body)))))) hS9 rfl rfl ?_
      refine gd_pure 38 rfl (by kernel_rfl) (PQ.th (PQ.bk (PQ.th (PQ.th (PQ.bk (PQ.th PQ.body)))))) hS9 rfl rfl (.bool true) (by kernel_rfl) ?_
      refine gd_keep [(0, .slice Aa qs.length ca), (1, .slice Ab2 rs.length cb2), (5, Ni i), (55, .bool true)] (by kernel_rfl) ?_
      refine gd_done (by kernel_rfl) ?_
      refine at_sub [(0, .slice Aa qs.length ca), (1, .slice Ab2 rs.length cb2), (5, Ni i), (55, .bool true)] (Sub.of_eq (by kernel_rfl)) ?_
      refine sw_next ?_
      refine sw_true rfl rfl ?_
      refine sw_sr ?_
      refine gl_ops 1 [(4, .bool false)] (by kernel_rfl) ?_
      refine gl_dn rfl ?_
      refine sw_ret ?_
      refine bkR ?_
      refine thR ?_
      refine thR ?_
      refine bkR ?_
      refine thR ?_
      refine ret1 rfl rfl  ?_
      first | exact ⟨false, rfl, ⟨fun h => Bool.noConfusion h, fun h => absurd h (map_fst_ne hq hr (fun e9 => hN0 (by rw [show q = r from e9])))⟩, (hH.sublist (List.nil_sublist _)).fresh⟩ | exact ⟨false, rfl, ⟨fun h => Bool.noConfusion h, fun h => absurd h (map_fst_ne hq hr (fun e9 => absurd (show q.sure = r.sure by rw [show q = r from e9]) (by omega)))⟩, (hH.sublist (List.nil_sublist _)).fresh⟩ | exact ⟨false, rfl, ⟨fun h => Bool.noConfusion h, fun h => absurd h (map_fst_ne hq hr (fun e9 => hB0 (by rw [show q = r from e9])))⟩, (hH.sublist (List.nil_sublist _)).fresh⟩ | exact ⟨true, rfl, ⟨fun _ => map_fst_eq hlen (fun j hj => hall j (by omega)), fun _ => rfl⟩, hH.fresh⟩ | exact ⟨false, rfl, ⟨fun h => Bool.noConfusion h, fun h => absurd (congrArg List.length h) (by simp; omega)⟩, hH.fresh⟩
    ·
      try simp only [Bool.not_eq_false', beq_iff_eq] at hg3
      have hN1 := hg3
      refine gd_pure 12 rfl (by kernel_rfl) (PQ.th (PQ.bk (PQ.th (PQ.th (PQ.bk (PQ.th PQ.body)))))) hS9 rfl rfl (.slice Aa qs.length ca) (by kernel_rfl) ?_
      refine gd_pure 13 rfl (by kernel_rfl) (PQ.th (PQ.bk (PQ.th (PQ.th (PQ.bk (PQ.th PQ.body)))))) hS9 rfl rfl (Ni i) (by kernel_rfl) ?_
      obtain ⟨p9, hi11, hp10⟩ := ha.idx i (by omega) (by decide)
      refine gd_q 14 rfl (by kernel_rfl) (PQ.th (PQ.bk (PQ.th (PQ.th (PQ.bk (PQ.th PQ.body)))))) hS9 rfl rfl (fun w_ hS => (rd_idx (e := 93) (m := 3) (by kernel_rfl) (by kernel_rfl) rfl rfl hi11)) ?_
      refine gd_keep [(0, .slice Aa qs.length ca), (1, .slice Ab2 rs.length cb2), (5, Ni i), (28, .bool false), (31, .pointer (some p9))] (by kernel_rfl) ?_
      refine gd_pure 15 rfl (by kernel_rfl) (PQ.th (PQ.bk (PQ.th (PQ.th (PQ.bk (PQ.th PQ.body)))))) hS9 rfl rfl (.pointer (some (p9.add 2))) (by kernel_rfl) ?_
      refine gd_q 16 rfl (by kernel_rfl) (PQ.th (PQ.bk (PQ.th (PQ.th (PQ.bk (PQ.th PQ.body)))))) hS9 rfl rfl (fun w_ hS => (rd_load (by kernel_rfl) rfl (hS.zin _ _ (hp10 2 _ (by decide) (rowC_at filC_len hq 2 (by decide) rfl))))) ?_
      refine gd_pure 17 rfl (by kernel_rfl) (PQ.th (PQ.bk (PQ.th (PQ.th (PQ.bk (PQ.th PQ.body)))))) hS9 rfl rfl (.slice Ab2 rs.length cb2) (by kernel_rfl) ?_
      refine gd_keep [(0, .slice Aa qs.length ca), (1, .slice Ab2 rs.length cb2), (5, Ni i), (28, .bool false), (33, Ni q.sure), (34, .slice Ab2 rs.length cb2)] (by kernel_rfl) ?_
      refine gd_pure 18 rfl (by kernel_rfl) (PQ.th (PQ.bk (PQ.th (PQ.th (PQ.bk (PQ.th PQ.body)))))) hS9 rfl rfl (Ni i) (by kernel_rfl) ?_
      obtain ⟨p12, hi14, hp13⟩ := hb.idx i (by omega) (by decide)
      refine gd_q 19 rfl (by kernel_rfl) (PQ.th (PQ.bk (PQ.th (PQ.th (PQ.bk (PQ.th PQ.body)))))) hS9 rfl rfl (fun w_ hS => (rd_idx (e := 93) (m := 3) (by kernel_rfl) (by kernel_rfl) rfl rfl hi14)) ?_
      refine gd_pure 20 rfl (by kernel_rfl) (PQ.th (PQ.bk (PQ.th (PQ.th (PQ.bk (PQ.th PQ.body)))))) hS9 rfl rfl (.pointer (some (p12.add 2))) (by kernel_rfl) ?_
      refine gd_keep [(0, .slice Aa qs.length ca), (1, .slice Ab2 rs.length cb2), (5, Ni i), (28, .bool false), (33, Ni q.sure), (37, .pointer (some (p12.add 2)))] (by kernel_rfl) ?_
      refine gd_q 21 rfl (by kernel_rfl) (PQ.th (PQ.bk (PQ.th (PQ.th (PQ.bk (PQ.th PQ.body)))))) hS9 rfl rfl (fun w_ hS => (rd_load (by kernel_rfl) rfl (hS.zin _ _ (hp13 2 _ (by decide) (rowC_at filC_len hr 2 (by decide) rfl))))) ?_
      refine gd_pure 22 rfl (by kernel_rfl) (PQ.th (PQ.bk (PQ.th (PQ.th (PQ.bk (PQ.th PQ.body)))))) hS9 rfl rfl (.bool (((q.sure : Nat) : Int) != ((r.sure : Nat) : Int))) (by kernel_rfl) ?_
      refine gd_pure 23 rfl (by kernel_rfl) (PQ.th (PQ.bk (PQ.th (PQ.th (PQ.bk (PQ.th PQ.body)))))) hS9 rfl rfl (.bool (((q.sure : Nat) : Int) != ((r.sure : Nat) : Int))) (by kernel_rfl) ?_
      refine gd_keep [(0, .slice Aa qs.length ca), (1, .slice Ab2 rs.length cb2), (5, Ni i), (40, .bool (((q.sure : Nat) : Int) != ((r.sure : Nat) : Int)))] (by kernel_rfl) ?_
      refine gd_pure 24 rfl (by kernel_rfl) (PQ.th (PQ.bk (PQ.th (PQ.th (PQ.bk (PQ.th PQ.body)))))) hS9 rfl rfl (.bool (((q.sure : Nat) : Int) != ((r.sure : Nat) : Int))) (by kernel_rfl) ?_
      refine gd_split 41 (b := ((q.sure : Nat) : Int) != ((r.sure : Nat) : Int)) rfl (fun hg5 => ?_) (fun hg5 => ?_)
      ·
        refine gd_cv 40 (.bool true) (by rw [hg5]) rfl ?_
        try simp only [bne_iff_ne, ne_eq] at hg5
        have hS0 := hg5
        refine gd_not 25 rfl (by kernel_rfl) (PQ.th (PQ.bk (PQ.th (PQ.th (PQ.bk (PQ.th PQ.body)))))) hS9 rfl rfl ?_
        refine gd_not 26 rfl (by kernel_rfl) (PQ.th (PQ.bk (PQ.th (PQ.th (PQ.bk (PQ.th PQ.body)))))) hS9 rfl rfl ?_
        refine gd_keep [(0, .slice Aa qs.length ca), (1, .slice Ab2 rs.length cb2), (5, Ni i), (41, .bool true), (42, undef), (43, undef)] (by kernel_rfl) ?_
        refine gd_not 27 rfl (by kernel_rfl) (PQ.th (PQ.bk (PQ.th (PQ.th (PQ.bk (PQ.th PQ.body)))))) hS9 rfl rfl ?_
        refine gd_not 28 rfl (by kernel_rfl) (PQ.th (PQ.bk (PQ.th (PQ.th (PQ.bk (PQ.th PQ.body)))))) hS9 rfl rfl ?_
        refine gd_not 29 rfl (by kernel_rfl) (PQ.th (PQ.bk (PQ.th (PQ.th (PQ.bk (PQ.th PQ.body)))))) hS9 rfl rfl ?_
        refine gd_keep [(0, .slice Aa qs.length ca), (1, .slice Ab2 rs.length cb2), (5, Ni i), (41, .bool true), (46, undef)] (by kernel_rfl) ?_
        refine gd_not 30 rfl (by kernel_rfl) (PQ.th (PQ.bk (PQ.th (PQ.th (PQ.bk (PQ.th PQ.body)))))) hS9 rfl rfl ?_
        refine gd_not 31 rfl (by kernel_rfl) (PQ.th (PQ.bk (PQ.th (PQ.th (PQ.bk (PQ.th PQ.body)))))) hS9 rfl rfl ?_
        refine gd_not 32 rfl (by kernel_rfl) (PQ.th (PQ.bk (PQ.th (PQ.th (PQ.bk (PQ.th PQ.body)))))) hS9 rfl rfl ?_
        refine gd_keep [(0, .slice Aa qs.length ca), (1, .slice Ab2 rs.length cb2), (5, Ni i), (41, .bool true), (47, undef), (48, undef), (49, undef)] (by kernel_rfl) ?_
        refine gd_not 33 rfl (by kernel_rfl) (PQ.th (PQ.bk (PQ.th (PQ.th (PQ.bk (PQ.th PQ.body)))))) hS9 rfl rfl ?_
        refine gd_not 34 rfl (by kernel_rfl) (PQ.th (PQ.bk (PQ.th (PQ.th (PQ.bk (PQ.th PQ.body)))))) hS9 rfl rfl ?_
        refine gd_not 35 rfl (by kernel_rfl) (PQ.th (PQ.bk (PQ.th (PQ.th (PQ.bk (PQ.th PQ.body)))))) hS9 rfl rfl ?_
        refine gd_keep [(0, .slice Aa qs.length ca), (1, .slice Ab2 rs.length cb2), (5, Ni i), (41, .bool true), (47, undef), (52, undef)] (by kernel_rfl) ?_
        refine gd_not 36 rfl (by kernel_rfl) (PQ.th (PQ.bk (PQ.th (PQ.th (PQ.bk (PQ.th PQ.body)))))) hS9 rfl rfl ?_
        refine gd_not 37 rfl (by kernel_rfl) (PQ.th (PQ.bk (PQ.th (PQ.th (PQ.bk (PQ.th PQ.body)))))) hS9 rfl rfl ?_
        refine gd_pure 38 rfl (by kernel_rfl) (PQ.th (PQ.bk (PQ.th (PQ.th (PQ.bk (PQ.th PQ.body)))))) hS9 rfl rfl (.bool true) (by kernel_rfl) ?_
        refine gd_keep [(0, .slice Aa qs.length ca), (1, .slice Ab2 rs.length cb2), (5, Ni i), (55, .bool true)] (by kernel_rfl) ?_
        refine gd_done (by kernel_rfl) ?_
        refine at_sub [(0, .slice Aa qs.length ca), (1, .slice Ab2 rs.length cb2), (5, Ni i), (55, .bool true)] (Sub.of_eq (by kernel_rfl)) ?_
        refine sw_next ?_
        refine sw_true rfl rfl ?_
        refine sw_sr ?_
        refine gl_ops 1 [(4, .bool false)] (by kernel_rfl) ?_
        refine gl_dn rfl ?_
        refine sw_ret ?_
        refine bkR ?_
        refine thR ?_
        refine thR ?_
        refine bkR ?_
        refine thR ?_
        refine ret1 rfl rfl  ?_
        first | exact ⟨false, rfl, ⟨fun h => Bool.noConfusion h, fun h => absurd h (map_fst_ne hq hr (fun e9 => hN0 (by rw [show q = r from e9])))⟩, (hH.sublist (List.nil_sublist _)).fresh⟩ | exact ⟨false, rfl, ⟨fun h => Bool.noConfusion h, fun h => absurd h (map_fst_ne hq hr (fun e9 => absurd (show q.sure = r.sure by rw [show q = r from e9]) (by omega)))⟩, (hH.sublist (List.nil_sublist _)).fresh⟩ | exact ⟨false, rfl, ⟨fun h => Bool.noConfusion h, fun h => absurd h (map_fst_ne hq hr (fun e9 => hB0 (by rw [show q = r from e9])))⟩, (hH.sublist (List.nil_sublist _)).fresh⟩ | exact ⟨true, rfl, ⟨fun _ => map_fst_eq hlen (fun j hj => hall j (by omega)), fun _ => rfl⟩, hH.fresh⟩ | exact ⟨false, rfl, ⟨fun h => Bool.noConfusion h, fun h => absurd (congrArg List.length h) (by simp; omega)⟩, hH.fresh⟩
      ·
        refine gd_cv 40 (.bool false) (by rw [hg5]) rfl ?_
        try simp only [bne_eq_false_iff_eq] at hg5
        have hS1 := hg5
        refine gd_pure 25 rfl (by kernel_rfl) (PQ.th (PQ.bk (PQ.th (PQ.th (PQ.bk (PQ.th PQ.body)))))) hS9 rfl rfl (.slice Aa qs.length ca) (by kernel_rfl) ?_
        refine gd_pure 26 rfl (by kernel_rfl) (PQ.th (PQ.bk (PQ.th (PQ.th (PQ.bk (PQ.th PQ.body)))))) hS9 rfl rfl (Ni i) (by kernel_rfl) ?_
        refine gd_keep [(0, .slice Aa qs.length ca), (1, .slice Ab2 rs.length cb2), (5, Ni i), (41, .bool false), (42, .slice Aa qs.length ca), (43, Ni i)] (by kernel_rfl) ?_
        obtain ⟨p15, hi17, hp16⟩ := ha.idx i (by omega) (by decide)
        refine gd_q 27 rfl (by kernel_rfl) (PQ.th (PQ.bk (PQ.th (PQ.th (PQ.bk (PQ.th PQ.body)))))) hS9 rfl rfl (fun w_ hS => (rd_idx (e := 93) (m := 3) (by kernel_rfl) (by kernel_rfl) rfl rfl hi17)) ?_
        refine gd_pure 28 rfl (by kernel_rfl) (PQ.th (PQ.bk (PQ.th (PQ.th (PQ.bk (PQ.th PQ.body)))))) hS9 rfl rfl (.pointer (some (p15.add 1))) (by kernel_rfl) ?_
        refine gd_q 29 rfl (by kernel_rfl) (PQ.th (PQ.bk (PQ.th (PQ.th (PQ.bk (PQ.th PQ.body)))))) hS9 rfl rfl (fun w_ hS => (rd_load (by kernel_rfl) rfl (hS.zin _ _ (hp16 1 _ (by decide) (rowC_at filC_len hq 1 (by decide) rfl))))) ?_
        refine gd_keep [(0, .slice Aa qs.length ca), (1, .slice Ab2 rs.length cb2), (5, Ni i), (41, .bool false), (46, .slice Ax q.b.length cx)] (by kernel_rfl) ?_
        refine gd_q 30 rfl (by kernel_rfl) (PQ.th (PQ.bk (PQ.th (PQ.th (PQ.bk (PQ.th PQ.body)))))) hS9 rfl rfl (fun w_ hS => (rd_str (e := 5) (by kernel_rfl) (by kernel_rfl) (by kernel_rfl) rfl (hbx.mono hS.zin))) ?_
        refine gd_pure 31 rfl (by kernel_rfl) (PQ.th (PQ.bk (PQ.th (PQ.th (PQ.bk (PQ.th PQ.body)))))) hS9 rfl rfl (.slice Ab2 rs.length cb2) (by kernel_rfl) ?_
        refine gd_pure 32 rfl (by kernel_rfl) (PQ.th (PQ.bk (PQ.th (PQ.th (PQ.bk (PQ.th PQ.body)))))) hS9 rfl rfl (Ni i) (by kernel_rfl) ?_
        refine gd_keep [(0, .slice Aa qs.length ca), (1, .slice Ab2 rs.length cb2), (5, Ni i), (41, .bool false), (47, .string (bs q.b)), (48, .slice Ab2 rs.length cb2), (49, Ni i)] (by kernel_rfl) ?_
        obtain ⟨p18, hi20, hp19⟩ := hb.idx i (by omega) (by decide)
        refine gd_q 33 rfl (by kernel_rfl) (PQ.th (PQ.bk (PQ.th (PQ.th (PQ.bk (PQ.th PQ.body)))))) hS9 rfl rfl (fun w_ hS => (rd_idx (e := 93) (m := 3) (by kernel_rfl) (by kernel_rfl) rfl rfl hi20)) ?_
        refine gd_pure 34 rfl (by kernel_rfl) (PQ.th (PQ.bk (PQ.th (PQ.th (PQ.bk (PQ.th PQ.body)))))) hS9 rfl rfl (.pointer (some (p18.add 1))) (by kernel_rfl) ?_
        refine gd_q 35 rfl (by kernel_rfl) (PQ.th (PQ.bk (PQ.th (PQ.th (PQ.bk (PQ.th PQ.body)))))) hS9 rfl rfl (fun w_ hS => (rd_load (by kernel_rfl) rfl (hS.zin _ _ (hp19 1 _ (by decide) (rowC_at filC_len hr 1 (by decide) rfl))))) ?_
        refine gd_keep [(0, .slice Aa qs.length ca), (1, .slice Ab2 rs.length cb2), (5, Ni i), (41, .bool false), (47, .string (bs q.b)), (52, .slice Ay r.b.length cy)] (by kernel_rfl) ?_
        refine gd_q 36 rfl (by kernel_rfl) (PQ.th (PQ.bk (PQ.th (PQ.th (PQ.bk (PQ.th PQ.body)))))) hS9 rfl rfl (fun w_ hS => (rd_str (e := 5) (by kernel_rfl) (by kernel_rfl) (by kernel_rfl) rfl (hby.mono hS.zin))) ?_
        refine gd_q 37 rfl (by kernel_rfl) (PQ.th (PQ.bk (PQ.th (PQ.th (PQ.bk (PQ.th PQ.body)))))) hS9 rfl rfl (fun w_ hS => (rd_sneq (by kernel_rfl) rfl rfl)) ?_
        refine gd_pure 38 rfl (by kernel_rfl) (PQ.th (PQ.bk (PQ.th (PQ.th (PQ.bk (PQ.th PQ.body)))))) hS9 rfl rfl (.bool (!(q.b == r.b))) (by kernel_rfl) ?_
        refine gd_keep [(0, .slice Aa qs.length ca), (1, .slice Ab2 rs.length cb2), (5, Ni i), (55, .bool (!(q.b == r.b)))] (by kernel_rfl) ?_
        refine gd_done (by kernel_rfl) ?_
        refine at_sub [(0, .slice Aa qs.length ca), (1, .slice Ab2 rs.length cb2), (5, Ni i), (55, .bool (!(q.b == r.b)))] (Sub.of_eq (by kernel_rfl)) ?_
        refine sw_next ?_
        refine sw_cond rfl rfl (fun hc7 => ?_) (fun hc7 => ?_)
        ·
          try simp only [Bool.not_eq_true', beq_eq_false_iff_ne, ne_eq] at hc7
          have hB0 := hc7
          refine sw_sr ?_
          refine gl_ops 1 [(4, .bool false)] (by kernel_rfl) ?_
          refine gl_dn rfl ?_
          refine sw_ret ?_
          refine bkR ?_
          refine thR ?_
          refine thR ?_
          refine bkR ?_
          refine thR ?_
          refine ret1 rfl rfl  ?_
          first | exact ⟨false, rfl, ⟨fun h => Bool.noConfusion h, fun h => absurd h (map_fst_ne hq hr (fun e9 => hN0 (by rw [show q = r from e9])))⟩, (hH.sublist (List.nil_sublist _)).fresh⟩ | exact ⟨false, rfl, ⟨fun h => Bool.noConfusion h, fun h => absurd h (map_fst_ne hq hr (fun e9 => absurd (show q.sure = r.sure by rw [show q = r from e9]) (by omega)))⟩, (hH.sublist (List.nil_sublist _)).fresh⟩ | exact ⟨false, rfl, ⟨fun h => Bool.noConfusion h, fun h => absurd h (map_fst_ne hq hr (fun e9 => hB0 (by rw [show q = r from e9])))⟩, (hH.sublist (List.nil_sublist _)).fresh⟩ | exact ⟨true, rfl, ⟨fun _ => map_fst_eq hlen (fun j hj => hall j (by omega)), fun _ => rfl⟩, hH.fresh⟩ | exact ⟨false, rfl, ⟨fun h => Bool.noConfusion h, fun h => absurd (congrArg List.length h) (by simp; omega)⟩, hH.fresh⟩
        try simp only [Bool.not_eq_false', beq_iff_eq] at hc7
        have hB1 := hc7
        refine sw_skip ?_
        refine bkN ?_
        refine sw_next ?_
        refine sw_region ?_
        refine gl_ops 2 [(0, .slice Aa qs.length ca), (1, .slice Ab2 rs.length cb2), (16, .int .i64 (IntKind.i64.wrap (((i : Nat) : Int) + 1)))] (by kernel_rfl) ?_
        refine gl_cv 16 (Ni (i + 1)) (cv_i64 (by omega)) rfl ?_
        refine gl_ops 1 [(0, .slice Aa qs.length ca), (1, .slice Ab2 rs.length cb2), (5, Ni (i + 1))] (by kernel_rfl) ?_
        refine gl_done rfl ?_
        refine rnd_end (g := (i)) (i + 1) (by kernel_rfl) ?_ ?_
        · exact ⟨by omega, all_nx2 hall hq hr (fil_ext hN1 (Int.ofNat.inj hS1) hB1), hH⟩
        · show qs.length - (i + 1) < qs.length - i; omega
  try simp only [decide_eq_false_iff_not, Int.not_lt, Int.not_le] at hc2
  refine sw_exit ?_
  refine thX ?_
  refine thX ?_
  refine bkH ?_
  refine sw_next ?_
  refine sw_sr ?_
  refine gl_ops 1 [(4, .bool true)] (by kernel_rfl) ?_
  refine gl_dn rfl ?_
  refine sw_ret ?_
  refine ret1 rfl rfl  ?_
  first | exact ⟨false, rfl, ⟨fun h => Bool.noConfusion h, fun h => absurd h (map_fst_ne hq hr (fun e9 => hN0 (by rw [show q = r from e9])))⟩, (hH.sublist (List.nil_sublist _)).fresh⟩ | exact ⟨false, rfl, ⟨fun h => Bool.noConfusion h, fun h => absurd h (map_fst_ne hq hr (fun e9 => absurd (show q.sure = r.sure by rw [show q = r from e9]) (by omega)))⟩, (hH.sublist (List.nil_sublist _)).fresh⟩ | exact ⟨false, rfl, ⟨fun h => Bool.noConfusion h, fun h => absurd h (map_fst_ne hq hr (fun e9 => hB0 (by rw [show q = r from e9])))⟩, (hH.sublist (List.nil_sublist _)).fresh⟩ | exact ⟨true, rfl, ⟨fun _ => map_fst_eq hlen (fun j hj => hall j (by omega)), fun _ => rfl⟩, hH.fresh⟩ | exact ⟨false, rfl, ⟨fun h => Bool.noConfusion h, fun h => absurd (congrArg List.length h) (by simp; omega)⟩, hH.fresh⟩
theorem RNew18_ct (w : World) : Fun Tryz.prog 13 [] w fun v w' => ∃ xb, v = .pointer (some ⟨xb, 0, none⟩) ∧ Fresh w w' [.grp (rdkO xb (.slice none 0 0) false (-1) 0 [])] := by
  refine fun_of_sw Tryz.func13 rfl 3 rfl rfl ?_
  have hH := Hp.start w
  refine sw_sr ?_
  refine gl_ops 1 [] (by kernel_rfl) ?_
  refine gl_dn rfl ?_
  refine sw_sr ?_
  refine gl_ops 1 [(1, .agg #[.slice none 0 0, .bool false, .int .i64 (-1), .int .i64 0])] (by kernel_rfl) ?_
  refine gl_st (st_boxH (cs := [.slice none 0 0, .bool false, .int .i64 (-1), .int .i64 0]) rfl rfl rfl rfl hH ?_)
  clear hH; intro b1 w2 hH
  refine gl_ops 1 [(0, Pp b1 0)] (by kernel_rfl) ?_
  refine gl_dn rfl ?_
  refine sw_ret ?_
  refine ret1 rfl rfl  ?_
  have h3 := (hH.nilRow 93 3).nogrp
  have h4 : Hp w w2 _ _ (rdkO b1 (.slice none 0 0) false (-1) 0 [] ++ []) := h3
  exact ⟨_, rfl, h4.close.fresh⟩
end Go.Proofs.YtjcchjgkkplamaaGreatDoor
