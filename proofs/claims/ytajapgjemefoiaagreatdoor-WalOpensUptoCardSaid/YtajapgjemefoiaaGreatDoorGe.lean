/- Ge: several texts in one. -/
import Derived.Test.YtajapgjemefoiaaGreatDoorGb
import Derived.Test.YtajapgjemefoiaaGreatDoorGd
import Derived.Test.YtajapgjemefoiaaGreatDoorGa
import Derived.Test.YtajapgjemefoiaaGreatDoorSort
import Derived.Test.YtajapgjemefoiaaGreatDoorShelf
import Derived.Test.YtajapgjemefoiaaGreatDoorGc
/- Layer 19, the document's Same: are two rows of entries alike? What it answers. -/
set_option maxRecDepth 100000
set_option maxHeartbeats 1000000
set_option linter.unusedVariables false
set_option linter.unusedSimpArgs false
namespace Go.Proofs.YtajapgjemefoiaaGreatDoor
open Go.RowKit Go.SW
abbrev EI := List (EA × Value)
def eiC (q : EA × Value) : List Value := [.int .i64 q.1.ix, .int .i64 q.1.tm, .int .i64 q.1.kd, q.2]
theorem eiC_len (q : EA × Value) : (eiC q).length = 4 := rfl
theorem ea_ext {f g : EA} (h1 : f.ix = g.ix) (h2 : f.tm = g.tm) (h3 : f.kd = g.kd) (h4 : f.d = g.d) : f = g := by
  cases f; cases g; simp_all
theorem ea_eq {qs rs : EI} (hl : qs.length = rs.length) (h : ∀ j : Nat, j < qs.length → ∀ q r, qs[j]? = some q → rs[j]? = some r → q.1 = r.1) : qs.map (·.1) = rs.map (·.1) := by
  apply List.ext_getElem?
  intro j
  rw [List.getElem?_map, List.getElem?_map]
  by_cases hj : j < qs.length
  · rw [List.getElem?_eq_getElem hj, List.getElem?_eq_getElem (show j < rs.length by omega)]
    simp only [Option.map_some, Option.some.injEq]
    exact h j hj _ _ (List.getElem?_eq_getElem hj) (List.getElem?_eq_getElem (by omega))
  · rw [List.getElem?_eq_none (by omega), List.getElem?_eq_none (by omega)]
theorem ea_ne {qs rs : EI} {j : Nat} {q r : EA × Value} (hq : qs[j]? = some q) (hr : rs[j]? = some r) (h : q.1 ≠ r.1) : ¬ qs.map (·.1) = rs.map (·.1) := by
  intro e
  have := congrArg (fun l => l[j]?) e
  simp only [List.getElem?_map, hq, hr, Option.map_some, Option.some.injEq] at this
  exact h this
theorem ea_next {qs rs : EI} {i : Nat} (h : ∀ j : Nat, j < i → ∀ q r, qs[j]? = some q → rs[j]? = some r → q.1 = r.1) {q r : EA × Value} (hq : qs[i]? = some q) (hr : rs[i]? = some r) (e : q.1 = r.1) : ∀ j : Nat, j < i + 1 → ∀ q r, qs[j]? = some q → rs[j]? = some r → q.1 = r.1 := by
  intro j hj q' r' h1 h2
  rcases Nat.lt_succ_iff_lt_or_eq.1 hj with h3 | rfl
  · exact h j h3 q' r' h1 h2
  · rw [hq] at h1; rw [hr] at h2; cases h1; cases h2; exact e

theorem Same19_ct (va vb : Value) (qs rs : EI) (w : World) (ha : Row w.cell? va 4 qs.length (rowC eiC qs)) (hb : Row w.cell? vb 4 rs.length (rowC eiC rs)) (hqa : ∀ q ∈ qs, RB w.cell? q.2 q.1.d) (hqb : ∀ q ∈ rs, RB w.cell? q.2 q.1.d) :
    Fun Tryz.prog 37 [va, vb] w fun v w' => ∃ b, v = .bool b ∧ (b = true ↔ qs.map (·.1) = rs.map (·.1)) ∧ Fresh w w' [] := by
 obtain ⟨Aa, ca, rfl, ha1, ha2⟩ := ha.form
 obtain ⟨Ab2, cb2, rfl, hb1, hb2⟩ := hb.form
 have ha3 := ha2
 simp only [maxLen] at ha3
 refine fun_of_sw Tryz.func37 rfl 69 rfl rfl ?_
 have hH := Hp.start w
 refine sw_sr <| Go0 1 <| Dn <| sw_seq <| sw_sr <| Go1 1 6 (.slice Aa qs.length ca) <| Gq rfl (Ln (e := 64) rfl) <| Go1 1 8 (.slice Ab2 rs.length cb2) <| Gq rfl (Ln (e := 64) rfl) <| Go1 1 10 (.bool (((qs.length : Nat) : Int) != ((rs.length : Nat) : Int))) <| Dn <| If rfl (fun hc1 => ?_) (fun hc1 => ?_)
 refine sw_sr <| Go1 1 4 (.bool false) <| Dn <| Rt1 rfl rfl ?_
 first | exact ⟨false, rfl, ⟨fun h => Bool.noConfusion h, fun h => absurd h (ea_ne hq hr (fun e9 => hne (by rw [show q = r from e9])))⟩, (hH.sb sln).fresh⟩ | exact ⟨true, rfl, ⟨fun _ => ea_eq hlen (fun j hj => hall j (by omega)), fun _ => rfl⟩, hH.fresh⟩ | exact ⟨false, rfl, ⟨fun h => Bool.noConfusion h, fun h => absurd (congrArg List.length h) (by simp; omega)⟩, hH.fresh⟩
 have hlen : qs.length = rs.length := by omega
 refine Sk <| sw_seq <| sw_sr <| Go1 1 5 (.int .i64 0) <| Dn <| sw_block <| Lp (γ := Nat) hH (fun i => [(0, .slice Aa qs.length ca), (1, .slice Ab2 rs.length cb2), (5, Ni i)]) (fun i w_ H_ => (i ≤ qs.length) ∧ (∀ j : Nat, j < i → ∀ q r, qs[j]? = some q → rs[j]? = some r → q.1 = r.1) ∧ H_ []) (fun i => qs.length - i) (0) ?_ ?_
 · exact ⟨by omega, fun j hj => absurd hj (by omega), hH⟩
 clear hH
 rintro i w1 ⟨hi, hall, hH⟩
 refine swk [(0, .slice Aa qs.length ca), (1, .slice Ab2 rs.length cb2), (5, Ni i)] <| sw_seq <| sw_sr <| Go2 2 11 (Ni i) 12 (.slice Aa qs.length ca) <| Gq rfl (Ln (e := 64) rfl) <| Go1 1 14 (.bool (decide ((i : Int) < ((qs.length : Nat) : Int)))) <| Dn <| If rfl (fun hc2 => ?_) (fun hc2 => ?_)
 refine Sk <| sw_seq <| sw_block <| sw_seq ?_
 obtain ⟨⟨q, uq⟩, hq⟩ : ∃ x, qs[i]? = some x := ⟨_, List.getElem?_eq_getElem (by omega)⟩
 have hbx : RB w.cell? uq q.d := hqa _ (List.mem_of_getElem? hq)
 obtain ⟨Ax, cx, rfl, hkx, hmx⟩ := hbx.row.form
 obtain ⟨⟨r, ur⟩, hr⟩ : ∃ x, rs[i]? = some x := ⟨_, List.getElem?_eq_getElem (by omega)⟩
 have hby : RB w.cell? ur r.d := hqb _ (List.mem_of_getElem? hr)
 obtain ⟨Ay, cy, rfl, hky, hmy⟩ := hby.row.form
 refine Dr hH sln ?_
 clear hH; intro w2 hH hS9
 obtain ⟨p3, hi5, hp4⟩ := ha.idx i (by omega) (by decide)
 refine Gp2 2 [0,1] 17 (.slice Aa qs.length ca) 18 (Ni i) hS9 <| Dq 2 rfl (fun _ hS => (Ix (e := 64) 4 rfl rfl hi5)) hS9 <| Gp1 1 [3] 20 (.pointer (some p3)) hS9 <| Dq 4 rfl (fun _ hS => (rd_load (by kernel_rfl) rfl (hS.zin _ _ (hp4 0 _ (by decide) (rowC_at eiC_len hq 0 (by decide) rfl))))) hS9 ?_
 obtain ⟨p6, hi8, hp7⟩ := hb.idx i (by omega) (by decide)
 refine Gp2 2 [5,6] 22 (.slice Ab2 rs.length cb2) 23 (Ni i) hS9 <| Dq 7 rfl (fun _ hS => (Ix (e := 64) 4 rfl rfl hi8)) hS9 <| Gp1 1 [8] 25 (.pointer (some p6)) hS9 <| Dq 9 rfl (fun _ hS => (rd_load (by kernel_rfl) rfl (hS.zin _ _ (hp7 0 _ (by decide) (rowC_at eiC_len hr 0 (by decide) rfl))))) hS9 <| Gp1 2 [10,11] 28 (.bool ((q.ix : Int) != (r.ix : Int))) hS9 <| Di 28 rfl (fun hg3 => ?_) (fun hg3 => ?_)
 have hne := hg3
 refine Gp1 40 [12,13,14,15,16,17,18,19,20,21,22,23,24,25,26,27,28,29,30,31,32,33,34,35,36,37,38,39,40,41,42,43,44,45,46,47,48,49,50,51] 68 (.bool true) hS9 <| gdn [(0, .slice Aa qs.length ca), (1, .slice Ab2 rs.length cb2), (5, Ni i), (68, .bool true)] <| sw_next <| It <| sw_sr <| Go1 1 4 (.bool false) <| Dn <| Rt1 rfl rfl ?_
 first | exact ⟨false, rfl, ⟨fun h => Bool.noConfusion h, fun h => absurd h (ea_ne hq hr (fun e9 => hne (by rw [show q = r from e9])))⟩, (hH.sb sln).fresh⟩ | exact ⟨true, rfl, ⟨fun _ => ea_eq hlen (fun j hj => hall j (by omega)), fun _ => rfl⟩, hH.fresh⟩ | exact ⟨false, rfl, ⟨fun h => Bool.noConfusion h, fun h => absurd (congrArg List.length h) (by simp; omega)⟩, hH.fresh⟩
 have hI1 := hg3
 obtain ⟨p9, hi11, hp10⟩ := ha.idx i (by omega) (by decide)
 refine Gp2 2 [12,13] 29 (.slice Aa qs.length ca) 30 (Ni i) hS9 <| Dq 14 rfl (fun _ hS => (Ix (e := 64) 4 rfl rfl hi11)) hS9 <| Gp1 1 [15] 32 (.pointer (some (p9.add 1))) hS9 <| Dq 16 rfl (fun _ hS => (rd_load (by kernel_rfl) rfl (hS.zin _ _ (hp10 1 _ (by decide) (rowC_at eiC_len hq 1 (by decide) rfl))))) hS9 ?_
 obtain ⟨p12, hi14, hp13⟩ := hb.idx i (by omega) (by decide)
 refine Gp2 2 [17,18] 34 (.slice Ab2 rs.length cb2) 35 (Ni i) hS9 <| Dq 19 rfl (fun _ hS => (Ix (e := 64) 4 rfl rfl hi14)) hS9 <| gdk [(0, .slice Aa qs.length ca), (1, .slice Ab2 rs.length cb2), (5, Ni i), (28, .bool false), (33, .int .i64 q.tm), (36, .pointer (some p12))] <| Gp1 1 [20] 37 (.pointer (some (p12.add 1))) hS9 <| Dq 21 rfl (fun _ hS => (rd_load (by kernel_rfl) rfl (hS.zin _ _ (hp13 1 _ (by decide) (rowC_at eiC_len hr 1 (by decide) rfl))))) hS9 <| Gp1 3 [22,23,24] 41 (.bool ((q.tm : Int) != (r.tm : Int))) hS9 <| Di 41 rfl (fun hg5 => ?_) (fun hg5 => ?_)
 have hne := hg5
 refine Gp1 27 [25,26,27,28,29,30,31,32,33,34,35,36,37,38,39,40,41,42,43,44,45,46,47,48,49,50,51] 68 (.bool true) hS9 <| gdn [(0, .slice Aa qs.length ca), (1, .slice Ab2 rs.length cb2), (5, Ni i), (68, .bool true)] <| sw_next <| It <| sw_sr <| Go1 1 4 (.bool false) <| Dn <| Rt1 rfl rfl ?_
 first | exact ⟨false, rfl, ⟨fun h => Bool.noConfusion h, fun h => absurd h (ea_ne hq hr (fun e9 => hne (by rw [show q = r from e9])))⟩, (hH.sb sln).fresh⟩ | exact ⟨true, rfl, ⟨fun _ => ea_eq hlen (fun j hj => hall j (by omega)), fun _ => rfl⟩, hH.fresh⟩ | exact ⟨false, rfl, ⟨fun h => Bool.noConfusion h, fun h => absurd (congrArg List.length h) (by simp; omega)⟩, hH.fresh⟩
 have hT1 := hg5
 obtain ⟨p15, hi17, hp16⟩ := ha.idx i (by omega) (by decide)
 refine Gp2 2 [25,26] 42 (.slice Aa qs.length ca) 43 (Ni i) hS9 <| Dq 27 rfl (fun _ hS => (Ix (e := 64) 4 rfl rfl hi17)) hS9 <| Gp1 1 [28] 45 (.pointer (some (p15.add 2))) hS9 <| Dq 29 rfl (fun _ hS => (rd_load (by kernel_rfl) rfl (hS.zin _ _ (hp16 2 _ (by decide) (rowC_at eiC_len hq 2 (by decide) rfl))))) hS9 ?_
 obtain ⟨p18, hi20, hp19⟩ := hb.idx i (by omega) (by decide)
 refine Gp2 2 [30,31] 47 (.slice Ab2 rs.length cb2) 48 (Ni i) hS9 <| Dq 32 rfl (fun _ hS => (Ix (e := 64) 4 rfl rfl hi20)) hS9 <| Gp1 1 [33] 50 (.pointer (some (p18.add 2))) hS9 <| Dq 34 rfl (fun _ hS => (rd_load (by kernel_rfl) rfl (hS.zin _ _ (hp19 2 _ (by decide) (rowC_at eiC_len hr 2 (by decide) rfl))))) hS9 <| Gp1 3 [35,36,37] 54 (.bool ((q.kd : Int) != (r.kd : Int))) hS9 <| Di 54 rfl (fun hg7 => ?_) (fun hg7 => ?_)
 have hne := hg7
 refine Gp1 14 [38,39,40,41,42,43,44,45,46,47,48,49,50,51] 68 (.bool true) hS9 <| gdn [(0, .slice Aa qs.length ca), (1, .slice Ab2 rs.length cb2), (5, Ni i), (68, .bool true)] <| sw_next <| It <| sw_sr <| Go1 1 4 (.bool false) <| Dn <| Rt1 rfl rfl ?_
 first | exact ⟨false, rfl, ⟨fun h => Bool.noConfusion h, fun h => absurd h (ea_ne hq hr (fun e9 => hne (by rw [show q = r from e9])))⟩, (hH.sb sln).fresh⟩ | exact ⟨true, rfl, ⟨fun _ => ea_eq hlen (fun j hj => hall j (by omega)), fun _ => rfl⟩, hH.fresh⟩ | exact ⟨false, rfl, ⟨fun h => Bool.noConfusion h, fun h => absurd (congrArg List.length h) (by simp; omega)⟩, hH.fresh⟩
 have hK1 := hg7
 obtain ⟨p21, hi23, hp22⟩ := ha.idx i (by omega) (by decide)
 refine Gp2 2 [38,39] 55 (.slice Aa qs.length ca) 56 (Ni i) hS9 <| Dq 40 rfl (fun _ hS => (Ix (e := 64) 4 rfl rfl hi23)) hS9 <| Gp1 1 [41] 58 (.pointer (some (p21.add 3))) hS9 <| Dq 42 rfl (fun _ hS => (rd_load (by kernel_rfl) rfl (hS.zin _ _ (hp22 3 _ (by decide) (rowC_at eiC_len hq 3 (by decide) rfl))))) hS9 <| gdk [(0, .slice Aa qs.length ca), (1, .slice Ab2 rs.length cb2), (5, Ni i), (54, .bool false), (59, .slice Ax q.d.length cx)] <| Dq 43 rfl (fun _ hS => (rd_str (e := 5) (by kernel_rfl) (by kernel_rfl) (by kernel_rfl) rfl (hbx.mono hS.zin))) hS9 ?_
 obtain ⟨p24, hi26, hp25⟩ := hb.idx i (by omega) (by decide)
 refine Gp2 2 [44,45] 61 (.slice Ab2 rs.length cb2) 62 (Ni i) hS9 <| Dq 46 rfl (fun _ hS => (Ix (e := 64) 4 rfl rfl hi26)) hS9 <| Gp1 1 [47] 64 (.pointer (some (p24.add 3))) hS9 <| Dq 48 rfl (fun _ hS => (rd_load (by kernel_rfl) rfl (hS.zin _ _ (hp25 3 _ (by decide) (rowC_at eiC_len hr 3 (by decide) rfl))))) hS9 <| Dq 49 rfl (fun _ hS => (rd_str (e := 5) (by kernel_rfl) (by kernel_rfl) (by kernel_rfl) rfl (hby.mono hS.zin))) hS9 <| Dq 50 rfl (fun _ hS => (rd_sneq (by kernel_rfl) rfl rfl)) hS9 <| Gp1 1 [51] 68 (.bool (!(q.d == r.d))) hS9 <| gdn [(0, .slice Aa qs.length ca), (1, .slice Ab2 rs.length cb2), (5, Ni i), (68, .bool (!(q.d == r.d)))] <| sw_next <| If rfl (fun hc9 => ?_) (fun hc9 => ?_)
 have hne := hc9
 refine sw_sr <| Go1 1 4 (.bool false) <| Dn <| Rt1 rfl rfl ?_
 first | exact ⟨false, rfl, ⟨fun h => Bool.noConfusion h, fun h => absurd h (ea_ne hq hr (fun e9 => hne (by rw [show q = r from e9])))⟩, (hH.sb sln).fresh⟩ | exact ⟨true, rfl, ⟨fun _ => ea_eq hlen (fun j hj => hall j (by omega)), fun _ => rfl⟩, hH.fresh⟩ | exact ⟨false, rfl, ⟨fun h => Bool.noConfusion h, fun h => absurd (congrArg List.length h) (by simp; omega)⟩, hH.fresh⟩
 have hD1 := hc9
 refine sw_skip <| bkN <| sw_next <| sw_region <| Gw0 2 16 ((i : Int) + 1) ((i + 1 : Nat) : Int) <| Go1 1 5 (Ni (i + 1)) <| Dd <| rnd_end (g := (i)) (i + 1) (by kernel_rfl) ?_ ?_
 · exact ⟨by omega, ea_next hall hq hr (ea_ext hI1 hT1 hK1 hD1), hH⟩
 · show qs.length - (i + 1) < qs.length - i; omega
 refine sw_exit <| thX <| thX <| bkH <| sw_next <| sw_sr <| Go1 1 4 (.bool true) <| Dn <| Rt1 rfl rfl ?_
 first | exact ⟨false, rfl, ⟨fun h => Bool.noConfusion h, fun h => absurd h (ea_ne hq hr (fun e9 => hne (by rw [show q = r from e9])))⟩, (hH.sb sln).fresh⟩ | exact ⟨true, rfl, ⟨fun _ => ea_eq hlen (fun j hj => hall j (by omega)), fun _ => rfl⟩, hH.fresh⟩ | exact ⟨false, rfl, ⟨fun h => Bool.noConfusion h, fun h => absurd (congrArg List.length h) (by simp; omega)⟩, hH.fresh⟩
end Go.Proofs.YtajapgjemefoiaaGreatDoor
/- Layer 19 (wal): frames: entries' records behind some bytes: what it answers. -/
set_option maxRecDepth 100000
set_option maxHeartbeats 1000000
set_option linter.unusedVariables false
set_option linter.unusedSimpArgs false
namespace Go.Proofs.YtajapgjemefoiaaGreatDoor
open Go.RowKit Go.SW
def enB (es : EQ) : List UInt8 := recsB (es.map fun q => enR q.1)
theorem enB_next {es : EQ} {i : Nat} {q : En × Value} (h : es[i]? = some q) : enB (es.take (i + 1)) = enB (es.take i) ++ recB (enR q.1) := by
  have hi := (List.getElem?_eq_some_iff.1 h).1
  have he := (List.getElem?_eq_some_iff.1 h).2
  rw [List.take_succ_eq_append_getElem hi, he]
  simp [enB, recsB]
theorem enB_le {es : EQ} (i : Nat) : (enB (es.take i)).length ≤ (enB es).length := by
  have : enB es = enB (es.take i) ++ enB (es.drop i) := by
    conv => lhs; rw [← List.take_append_drop i es]
    simp only [enB, recsB, List.map_append, List.flatten_append]
  rw [this, List.length_append]; omega
structure EnOk (c : Zone) (q : En × Value) : Prop where
  d : RB c q.2 q.1.d
  ix : q.1.ix < 9223372036854775808
  tm : q.1.tm < 9223372036854775808
  kd : q.1.kd < 9223372036854775808

theorem Frames_ct (vb vx : Value) (b : List UInt8) (es : EQ) (w : World) (hM : Mine w [.row vb 5 1 b.length (bv b)]) (hE : Row (off w (blksOf [.row vb 5 1 b.length (bv b)])) vx 4 es.length (rowC enC es)) (hok : ∀ q ∈ es, EnOk (off w (blksOf [.row vb 5 1 b.length (bv b)])) q) (hl : b.length + (enB es).length ≤ 4294967296) (hn : es.length ≤ 1048576) :
    Fun Tryz.prog 52 [vb, vx] w fun v w' => ∃ v1, v = v1 ∧ Turn w w' [.row vb 5 1 b.length (bv b)] [.row v1 5 1 (b ++ enB es).length (bv (b ++ enB es))] := by
 obtain ⟨Ab, cb, rfl, hb1, hb2⟩ := (Row.of_own (hM.1 _ (List.mem_singleton.2 rfl))).form
 obtain ⟨Ax, cx, rfl, hx1, hx2⟩ := hE.form
 refine fun_of_sw Tryz.func52 rfl 27 rfl rfl ?_
 have hH := Hp.start_mine hM
 refine sw_sr <| Go0 1 <| Dn <| sw_seq <| sw_sr <| Go1 1 7 (.slice Ax es.length cx) <| Gq rfl (Ln (e := 64) rfl) <| Go1 1 9 (.int .i64 0) <| Dn <| sw_block <| Lp (γ := Nat × Nat × Option Addr × Nat) hH (fun (i, n, A, c) => [(0, .slice A n c), (7, .slice Ax es.length cx), (8, Ni es.length), (9, Ni i)]) (fun (i, n, A, c) w_ H_ => (i ≤ es.length) ∧ (n = b.length + (enB (es.take i)).length) ∧ H_ [.row (.slice A n c) 5 1 n (bv (b ++ enB (es.take i)))]) (fun (i, n, A, c) => es.length - i) (0, b.length, Ab, cb) ?_ ?_
 · exact ⟨Nat.zero_le _, by simp [enB, recsB], hH.cast (by simp [enB, recsB])⟩
 clear hH
 rintro ⟨i, n, A, c⟩ w1 ⟨hi, hn9, hH⟩
 refine swk [(0, .slice A n c), (7, .slice Ax es.length cx), (8, Ni es.length), (9, Ni i)] <| sw_sr <| Go1 1 10 (.bool (decide ((i : Int) < ((es.length : Nat) : Int)))) <| Dn <| sw_seq <| If rfl (fun hc1 => ?_) (fun hc1 => ?_)
 refine Sk <| sw_seq <| sw_block ?_
 obtain ⟨⟨⟨ix, tm, kd, dq⟩, vq⟩, hq⟩ : ∃ x, es[i]? = some x := ⟨_, List.getElem?_eq_getElem (by omega)⟩
 obtain ⟨kq, q1, q2, q3⟩ := hok _ (List.mem_of_getElem? hq)
 simp only at kq q1 q2 q3
 obtain ⟨Ad, cd, rfl, _, _⟩ := kq.row.form
 have hnx := enB_next hq
 have hle := enB_le (es := es) (i + 1)
 rw [hnx, List.length_append] at hle
 refine sw_sr ?_
 obtain ⟨p2, hi4, hp3⟩ := hE.idx i (by omega) (by decide)
 refine Gq rfl (Ix (e := 64) 4 rfl rfl hi4) <| Gq rfl (rd_loadZA (by kernel_rfl) hH hp3 rfl 0 rfl [Ni ix, Ni tm, Ni kd, .slice Ad dq.length cd] (by kernel_rfl) (rowC_all enC_len hq 0 _ rfl)) <| gl_st (Alc [.int .i64 0, .int .i64 0, .int .i64 0, .slice none 0 0] rfl hH ?_)
 clear hH; intro b5 w6 hH
 refine gl_st (Ka 1 [Ni ix, Ni tm, Ni kd, .slice Ad dq.length cd] [Ni ix, Ni tm, Ni kd, .slice Ad dq.length cd] rfl hH rfl rfl ?_)
 clear hH; intro w7 hH
 refine Dn <| sw_region <| Go2 2 13 (.slice A n c) 14 (Pp b5 0) <| Gq rfl (Lk 1 hH rfl rfl rfl) <| Go1 1 16 (Pp b5 1) <| Gq rfl (Lk 1 hH rfl rfl rfl) <| Go1 1 18 (Pp b5 2) <| Gq rfl (Lk 1 hH rfl rfl rfl) <| Go1 1 20 (Pp b5 3) <| Gq rfl (Lk 1 hH rfl rfl rfl) <| Go1 1 22 (.agg #[.int .i64 2, Ni ix, Ni tm, Ni kd, .slice Ad dq.length cd]) <| gl_st (Sc rfl rfl (RecFrame_ct 2 ix tm kd _ dq _ (kq.mono hH.zin) (by omega) (by omega) (by omega) (by omega)) ?_)
 rintro _ w10 ⟨v8, rfl, hF11⟩
 replace hH := hH.call hF11
 obtain ⟨A12, c13, rfl, hl14, hm15⟩ := hH.row_form 2 rfl
 refine gl_st (Apd (e := 5) (.int .u8 0) 1 1 0 rfl hH rfl rfl rfl (hH.row_reads 2 rfl) (bv_one _) (by simp only [List.length_append] at *; unfold maxLen; simp only [enR] at *; omega) (by simp only [List.length_append] at *; simp only [enR] at *; omega) ?_)
 clear hH; intro v16 w17 hH
 replace hH := hH.row_eq 0 (l' := ((b ++ enB (es.take i)) ++ (recB ⟨2, ix, tm, kd, dq⟩)).length) (xs' := bv ((b ++ enB (es.take i)) ++ (recB ⟨2, ix, tm, kd, dq⟩))) rfl (by simp only [List.length_append, List.length_cons, List.length_nil] <;> omega) ((bv_append _ _).symm)
 obtain ⟨A18, c19, rfl, hl20, hm21⟩ := hH.row_form 0 rfl
 refine Go1 1 0 (.slice A18 (((b ++ enB (es.take i)) ++ (recB ⟨2, ix, tm, kd, dq⟩)).length) c19) <| Dd <| bkN <| sw_next <| sw_region <| Gw0 1 25 ((i : Int) + 1) ((i + 1 : Nat) : Int) <| Go1 1 9 (Ni (i + 1)) <| Dd <| rnd_end (g := (i, n, A, c)) (i + 1, ((b ++ enB (es.take i)) ++ (recB ⟨2, ix, tm, kd, dq⟩)).length, A18, c19) (by kernel_rfl) ?_ ?_
 replace hH := (hH.sb (slk sln)).n1
 · exact ⟨by omega, by rw [hnx]; simp only [List.length_append, enR] at *; omega, hH.cast (by rw [hnx, ← List.append_assoc]; rfl)⟩
 · show es.length - (i + 1) < es.length - i; omega
 refine sw_exit <| thX <| thX <| bkH <| sw_next <| sw_sr <| Go1 2 4 (.slice A n c) <| Dn <| Rt1 rfl rfl ?_
 have hie : i = es.length := by omega
 subst hie
 rw [List.take_length] at hH hn9
 exact ⟨_, rfl, (hH.cast (by rw [hn9, List.length_append])).turned⟩
end Go.Proofs.YtajapgjemefoiaaGreatDoor
/- The calculus of SW: a pool: blocks that stay as they are, however many; what is read in them hangs on no world. Plain theorems. -/
set_option linter.unusedVariables false
set_option linter.unusedSimpArgs false
set_option maxRecDepth 100000
namespace Go.SW
open Go Go.RowKit
theorem rd_if_eq {P : Program} {fr : Fr} {w : World} {d : Option Tmp} {ty : TypeId} {pos : String} {aft : Array Edge} {g : Option (Nat × Bool)} {t t2 : TypeId} {x : Operand} (ht : isIfaceT P t = true) {z : Bool} {T : TypeId} {v : Value} (hx : ev fr x = ifW z T v) : Runs P fr ⟨d, .binOp .eql t x (.const .nilIface) t2, ty, pos, aft, g⟩ (.bool z) w := by
  unfold isIfaceT at ht
  cases hu : P.underlying t with
  | none => simp [hu] at ht
  | some D =>
    cases D with
    | interface D =>
      unfold Runs
      cases z with
      | true =>
        have h : (Op.equal t .nilIface .nilIface).run P w = .ok true w := run_eqn0 9999 hu
        simp only [execOp, hx, ev_const, ifW, cond_true, Sem.run_bind]
        rw [show (eqGuard .eql t x (.const .nilIface) .nilIface .nilIface).run P w = .ok () w from by simp [eqGuard]]
        simp only [Result.andThen_ok]
        rw [show binOp .eql t .nilIface .nilIface = (do pure (.bool (← Op.equal t .nilIface .nilIface))) from rfl]
        simp only [Sem.run_bind, h, Result.andThen_ok, Sem.run_pure]
      | false =>
        have h : (Op.equal t (.iface T v) .nilIface).run P w = .ok false w := run_eqn1 9999 hu
        simp only [execOp, hx, ev_const, ifW, cond_false, Sem.run_bind]
        rw [show (eqGuard .eql t x (.const .nilIface) (.iface T v) .nilIface).run P w = .ok () w from by simp [eqGuard]]
        simp only [Result.andThen_ok]
        rw [show binOp .eql t (.iface T v) .nilIface = (do pure (.bool (← Op.equal t (.iface T v) .nilIface))) from rfl]
        simp only [Sem.run_bind, h, Result.andThen_ok, Sem.run_pure]
    | _ => simp [hu] at ht
abbrev Pl := List (Nat × Obj)
def plO (pl : Pl) : Own := .grp (pl.map fun p => .obj p.1 p.2)
def objCell (o : Obj) (a : Addr) : Option Value := match o with | .cells c _ _ => if a.spot.isSome then none else c[a.off]? | _ => none
def pz (pl : Pl) : Zone := fun a => (pl.find? fun p => Nat.beq p.1 a.block).bind fun p => objCell p.2 a
theorem objCell_is {w : World} {a : Addr} {o : Obj} (h : w.heap[a.block]? = some o) : w.cell? a = objCell o a := by
  unfold World.cell? objCell
  rw [h]
  cases o <;> rfl
theorem plO_at {w : World} {pl : Pl} (h : (plO pl).at w) : ∀ p ∈ pl, w.heap[p.1]? = some p.2 := fun p hp => h (.obj p.1 p.2) (List.mem_map.2 ⟨p, hp, rfl⟩)
theorem plO_blk {pl : Pl} {g : Nat} : g ∈ (plO pl).blks ↔ ∃ p ∈ pl, p.1 = g := by
  show g ∈ blksOf (pl.map fun p => .obj p.1 p.2) ↔ _
  unfold blksOf
  rw [List.mem_flatMap]
  constructor
  · rintro ⟨o, ho, hg⟩
    obtain ⟨p, hp, rfl⟩ := List.mem_map.1 ho
    exact ⟨p, hp, (List.mem_singleton.1 hg).symm⟩
  · rintro ⟨p, hp, rfl⟩
    exact ⟨_, List.mem_map.2 ⟨p, hp, rfl⟩, List.mem_singleton.2 rfl⟩
theorem pz_find {pl : Pl} {a : Addr} {v : Value} (h : pz pl a = some v) : ∃ p ∈ pl, p.1 = a.block ∧ objCell p.2 a = some v := by
  obtain ⟨p, hp, h2⟩ := Option.bind_eq_some_iff.1 h
  exact ⟨p, List.mem_of_find?_eq_some hp, Nat.eq_of_beq_eq_true (List.find?_some (p := fun p : Nat × Obj => Nat.beq p.1 a.block) hp), h2⟩
theorem pz_in {w : World} {pl : Pl} (h : (plO pl).at w) : (pz pl).le w.cell? := by
  intro a v hv
  obtain ⟨p, hp, hb, h2⟩ := pz_find hv
  have := plO_at h p hp
  rw [hb] at this
  rw [objCell_is this]; exact h2
theorem pz_app (pl p2 : Pl) : (pz pl).le (pz (pl ++ p2)) := by
  intro a v hv
  obtain ⟨p, hp, h2⟩ := Option.bind_eq_some_iff.1 hv
  unfold pz
  rw [List.find?_append, hp]; exact h2
theorem pz_skip {pl p2 : Pl} {a : Addr} (h : ∀ p ∈ pl, p.1 ≠ a.block) : pz (pl ++ p2) a = pz p2 a := by
  unfold pz
  rw [List.find?_append, List.find?_eq_none.2 (fun p hp => by simpa using h p hp)]; rfl
section
variable {w w0 : World} {z : Zone} {F : List Nat} {mine os r : List Own}
theorem pz_le (hH : Hp w0 w z F os) (k : Nat) {pl : Pl} (hk : os[k]? = some (plO pl)) : (pz pl).le w.cell? := pz_in (hH.own _ (List.mem_of_getElem? hk))
theorem pz_off (hH : Hp w0 w z F (mine ++ os)) (k : Nat) {pl : Pl} (hk : os[k]? = some (plO pl)) : (pz pl).le (off w (blksOf mine)) := by
  have hm := List.mem_of_getElem? hk
  have hl := pz_in (hH.own _ (List.mem_append_right _ hm))
  intro a v hv
  obtain ⟨p, hp, hb, _⟩ := pz_find hv
  have hn := hH.nodup
  rw [blksOf_append] at hn
  have hnot : a.block ∉ blksOf mine := fun h => (List.nodup_append.1 hn).2.2 _ h _ (List.mem_flatMap.2 ⟨_, hm, plO_blk.2 ⟨p, hp, hb⟩⟩) rfl
  unfold off
  rw [if_neg hnot]
  exact hl a v hv
theorem Row.on {c c' : Zone} {g l cap m n : Nat} {xs : List Value} (h : Row c (.slice (some ⟨g, 0, none⟩) l cap) m n xs) (hc : ∀ a, a.block = g → ∀ v, c a = some v → c' a = some v) : Row c' (.slice (some ⟨g, 0, none⟩) l cap) m n xs := by
  obtain ⟨h0, A, cap', e, h1, h2, h3⟩ := h
  cases e
  refine ⟨h0, _, _, rfl, h1, h2, fun j u hu => ?_⟩
  obtain ⟨ad, e, hp⟩ := h3 j u hu
  cases e
  exact ⟨_, rfl, hc _ (by unfold Addr.add; split <;> rfl) _ hp⟩
theorem Hp.pool (h : Hp w0 w z F os) : Hp w0 w z F (os ++ [plO []]) := h.nogrp
theorem pl_add {v : Value} {e : TypeId} {m n : Nat} {xs : List Value} {pl : Pl} (h : Hp w0 w z F (.row v e m n xs :: plO pl :: r)) : ∃ p2, Row (pz (pl ++ p2)) v m n xs ∧ Hp w0 w z F (plO (pl ++ p2) :: r) := by
  have hr : w.ownsRow 0 e m v n xs := h.own _ List.mem_cons_self
  rcases hr.2 with ⟨rfl, rfl⟩ | ⟨g, cap, cur, rfl, hb, hg, hn, hm, hs, ht⟩
  · have : xs = [] := List.eq_nil_of_length_eq_zero (by simpa using hr.1)
    subst this
    refine ⟨[], Row.nil _ _, ?_⟩
    rw [List.append_nil]
    exact h.sublist (.cons _ (List.Sublist.refl _))
  · have hnd := h.nodup
    have hnot : ∀ p ∈ pl, p.1 ≠ g := fun p hp e => by
      have h2 := (List.nodup_append.1 (show ([g] ++ blksOf (plO pl :: r)).Nodup from hnd)).2.2 g (List.mem_singleton.2 rfl) g
      exact h2 (List.mem_flatMap.2 ⟨_, List.mem_cons_self, plO_blk.2 ⟨p, hp, e⟩⟩) rfl
    refine ⟨[(g, .cells cur e (0, 0))], ?_, ?_⟩
    · refine (Row.of_own hr).on fun a ha u hu => ?_
      rw [pz_skip (fun p hp => by rw [ha]; exact hnot p hp)]
      have hg2 : w.heap[a.block]? = some (.cells cur e (0, 0)) := by rw [ha]; exact hg
      rw [objCell_is hg2] at hu
      unfold pz
      simp only [List.find?_cons, ha, Nat.beq_refl]
      exact hu
    · have h1 : Hp w0 w z F (.obj g (.cells cur e (0, 0)) :: plO pl :: r) := h.weak rfl (fun _ => hg)
      have h2 := (h1.perm (List.Perm.swap _ _ _)).merge
      exact h2.cast (by simp [plO])
theorem pl_adds {β : Type} {f : β → Own} {fv : β → Value} {e : TypeId} {m : Nat} {fn : β → Nat} {fx : β → List Value} (hf : ∀ x, f x = .row (fv x) e m (fn x) (fx x)) : ∀ (l : List β) {pl : Pl} {r : List Own}, Hp w0 w z F (.grp (l.map f) :: plO pl :: r) →
    ∃ p2, (∀ x ∈ l, Row (pz (pl ++ p2)) (fv x) m (fn x) (fx x)) ∧ Hp w0 w z F (plO (pl ++ p2) :: r)
  | [], pl, r, h => ⟨[], by simp, by rw [List.append_nil]; exact h.sublist (.cons _ (List.Sublist.refl _))⟩
  | x :: l, pl, r, h => by
    have h1 : Hp w0 w z F ((f x :: l.map f) ++ (plO pl :: r)) := h.open_
    have h2 : Hp w0 w z F (l.map f ++ (f x :: plO pl :: r)) := h1.perm (by simpa using List.perm_middle.symm)
    have h3 : Hp w0 w z F (.row (fv x) e m (fn x) (fx x) :: plO pl :: .grp (l.map f) :: r) := by
      have h4 := h2.close.perm ((List.Perm.swap _ _ _).trans ((List.Perm.swap _ _ _).cons _))
      rwa [hf x] at h4
    obtain ⟨p2, hR, h5⟩ := pl_add h3
    obtain ⟨p3, hRs, h6⟩ := pl_adds hf l (h5.perm (List.Perm.swap _ _ _))
    refine ⟨p2 ++ p3, fun y hy => ?_, ?_⟩
    · rw [← List.append_assoc]
      rcases List.mem_cons.1 hy with rfl | hy
      · exact hR.mono (pz_app _ _)
      · exact hRs y hy
    · rw [← List.append_assoc]; exact h6
end
end Go.SW
/- Layer 19 (wal): what is saved or compacted is on the disk, and is opened again. Plain mathematics. -/
set_option linter.unusedVariables false
namespace Go.Proofs.YtajapgjemefoiaaGreatDoor
open Go.SW Go.RowKit
theorem nameF_len (k : Nat) : (nameF k).length = 3 + (decB k).length := by unfold nameF; rw [List.length_append]; rfl
theorem nameB_nameF {k : Nat} (h : k < 1000000000) : nameB (nameF k) = true := by
  have hl := dec_len h
  have hd := dec_digits k
  have hlen := nameF_len k
  unfold nameB
  rw [decide_eq_true_eq]
  refine ⟨nameN_none fun j hj => ?_, by omega, by omega⟩
  match j, hj with
  | 0, _ => exact ok_let rfl
  | 1, _ => exact ok_let rfl
  | 2, _ => exact ok_let rfl
  | j + 3, hj =>
    have h2 : j < (decB k).length := by omega
    have h3 := List.all_eq_true.1 hd (decB k)[j] (List.getElem_mem h2)
    have e : gb (nameF k) (j + 3) = (decB k)[j].toNat := by
      unfold gb nameF
      rw [List.getD_eq_getElem?_getD, List.getElem?_append_right (by simp), List.getElem?_eq_getElem (by simpa using h2)]
      rfl
    refine ok_dig (by omega) ?_
    rw [e]
    simpa [digN] using h3
theorem cut_quiet {D : Dsk} (ha : D.ar = none) : cutD D = (D, false, 0) := by unfold cutD; rw [ha]
theorem doD_quiet {D : Dsk} (ha : D.ar = none) {kind : Nat} {nm p : List UInt8} {n : Int} (hm : mayE D nm (decide (kind ≠ 0 ∧ kind ≠ 2)) = 0) (h3 : ¬ (kind = 3 ∧ (n < 0 ∨ ((oldF D.fs nm).b.length : Int) < n))) : doD D kind nm p n = ({ D with fs := doF D.fs kind nm p n.toNat }, 0) := by
  rw [doD_ok (th := decide (kind ≠ 0 ∧ kind ≠ 2)) rfl hm h3 (cut_quiet ha)]
  rw [if_pos (.inl rfl), if_neg (fun h => by cases h.1)]
  rfl
theorem may_log {D : Dsk} (h : D.off = false) {k : Nat} (hk : k < 1000000000) : mayE D (nameF k) false = 0 := by
  unfold mayE
  rw [if_neg (by rw [h]; simp), if_neg (by rw [nameB_nameF hk]; simp), if_neg (fun h => by cases h.1)]
theorem may_log_at {D : Dsk} (h : D.off = false) {k : Nat} (hk : k < 1000000000) {f : Fil} (hf : getF D.fs (nameF k) = some f) : mayE D (nameF k) true = 0 := by
  unfold mayE
  rw [if_neg (by rw [h]; simp), if_neg (by rw [nameB_nameF hk]; simp), if_neg (fun h => by rw [hf] at h; cases h.2)]
theorem segFs_app : ∀ (a b : List (List Rc)) (lo : Nat), segFs lo (a ++ b) = segFs lo a ++ segFs (lo + a.length) b
  | [], b, lo => by simp [segFs]
  | rs :: a, b, lo => by
    rw [List.cons_append, segFs, segFs, segFs_app a b (lo + 1), List.cons_append, List.length_cons, show lo + 1 + a.length = lo + (a.length + 1) by omega]
theorem segFs_name : ∀ (a : List (List Rc)) (lo : Nat), ∀ f ∈ segFs lo a, ∃ j, j < a.length ∧ f.name = nameF (lo + j)
  | [], _ => fun f h => by cases h
  | rs :: a, lo => fun f h => by
    rcases List.mem_cons.1 h with rfl | h
    · exact ⟨0, by simp, rfl⟩
    · obtain ⟨j, h1, h2⟩ := segFs_name a (lo + 1) f h
      exact ⟨j + 1, by simp; omega, by rw [h2, show lo + 1 + j = lo + (j + 1) by omega]⟩
theorem delF_perm {F G : List Fil} (h : F.Perm G) (nm : List UInt8) : (delF F nm).Perm (delF G nm) := h.filter _
theorem delF_off {F : List Fil} {nm : List UInt8} (h : ∀ f ∈ F, f.name ≠ nm) : delF F nm = F := by
  unfold delF
  rw [List.filter_eq_self]
  intro f hf
  simpa using h f hf
theorem delF_segs (a : List (List Rc)) (lo : Nat) {k : Nat} (h : lo + a.length ≤ k) : delF (segFs lo a) (nameF k) = segFs lo a := by
  refine delF_off fun f hf e => ?_
  obtain ⟨j, h1, h2⟩ := segFs_name a lo f hf
  have := nameF_inj (h2.symm.trans e)
  omega
theorem delF_app (F G : List Fil) (nm : List UInt8) : delF (F ++ G) nm = delF F nm ++ delF G nm := by unfold delF; rw [List.filter_append]
theorem delF_self (f : Fil) : delF [f] f.name = [] := by simp [delF]
theorem delF_del (F : List Fil) (nm : List UInt8) : delF (delF F nm) nm = delF F nm := delF_off fun f hf => (mem_del.1 hf).2
theorem getF_perm {F G : List Fil} (hF : Srt F) (h : F.Perm G) {f : Fil} (hf : f ∈ G) : getF F f.name = some f := (getF_some hF).2 ⟨h.mem_iff.2 hf, rfl⟩
theorem set_last {F : List Fil} {lo : Nat} {segs o : List (List Rc)} (hS : Srt F) (hp : F.Perm (segFs lo (segs ++ o))) (ho : o.length ≤ 1) {f : Fil} (hn : f.name = nameF (lo + segs.length)) : (setF F f).Perm (segFs lo segs ++ [f]) := by
  refine (setF_perm hS f).trans (List.Perm.trans ?_ List.perm_append_comm)
  refine List.Perm.cons f ?_
  show (delF F f.name).Perm (segFs lo segs)
  refine (delF_perm hp _).trans ?_
  rw [segFs_app, delF_app, hn, delF_segs _ _ (Nat.le_refl _)]
  have : delF (segFs (lo + segs.length) o) (nameF (lo + segs.length)) = [] := by
    match o, ho with
    | [], _ => rfl
    | [rs], _ => exact delF_self ⟨nameF (lo + segs.length), recsB rs, (recsB rs).length⟩
  rw [this, List.append_nil]
theorem set_twice {F : List Fil} (hS : Srt F) {f g : Fil} (h : f.name = g.name) : setF (setF F f) g = setF F g := by
  refine srt_eq (srt_set (srt_set hS f) g) (srt_set hS g) ?_
  refine (setF_perm (srt_set hS f) g).trans (List.Perm.trans ?_ (setF_perm hS g).symm)
  refine List.Perm.cons g ?_
  refine (delF_perm (setF_perm hS f) _).trans ?_
  rw [show delF (f :: delF F f.name) g.name = delF [f] g.name ++ delF (delF F f.name) g.name from delF_app [f] _ _, ← h, delF_self, delF_del]
  exact List.Perm.refl _
theorem old_last {F : List Fil} {lo : Nat} {segs o : List (List Rc)} (hS : Srt F) (hp : F.Perm (segFs lo (segs ++ o))) (ho : o.length ≤ 1) : oldF F (nameF (lo + segs.length)) = ⟨nameF (lo + segs.length), recsB o.flatten, (recsB o.flatten).length⟩ := by
  match o, ho with
  | [], _ =>
    have : getF F (nameF (lo + segs.length)) = none := getF_none.2 fun f hf e => by
      obtain ⟨j, h1, h2⟩ := segFs_name _ _ f (hp.mem_iff.1 hf)
      have := nameF_inj (h2.symm.trans e)
      rw [List.append_nil] at h1
      omega
    unfold oldF
    rw [this]; rfl
  | [rs], _ =>
    have hm : (⟨nameF (lo + segs.length), recsB rs, (recsB rs).length⟩ : Fil) ∈ segFs lo (segs ++ [rs]) := by
      rw [segFs_app]; exact List.mem_append_right _ List.mem_cons_self
    have := getF_perm hS hp hm
    unfold oldF
    rw [show getF F (nameF (lo + segs.length)) = _ from this]
    simp
theorem sure_segs : ∀ (a : List (List Rc)) (lo : Nat), Sure (segFs lo a)
  | [], _ => fun f h => by cases h
  | rs :: a, lo => fun f h => by
    rcases List.mem_cons.1 h with rfl | h
    · rfl
    · exact sure_segs a (lo + 1) f h
theorem sure_perm {F G : List Fil} (h : F.Perm G) (hs : Sure G) : Sure F := fun f hf => hs f (h.mem_iff.1 hf)
theorem recsB_app (a b : List Rc) : recsB (a ++ b) = recsB a ++ recsB b := by simp [recsB]
theorem doAll_app : ∀ (a b : List Rc) (c : Cn) (f : Bool), a ≠ [] → doAll c (a ++ b) f = (doAll c a f).bind fun c' => doAll c' b false
  | [], _, _, _, h => absurd rfl h
  | [r], b, c, f, _ => by
    show (doC c r f).bind (fun c' => doAll c' b false) = ((doC c r f).bind fun c' => some c').bind _
    cases doC c r f <;> rfl
  | r :: s :: a, b, c, f, _ => by
    have ih := fun c' => doAll_app (s :: a) b c' false (by simp)
    show (doC c r f).bind (fun c' => doAll c' (s :: a ++ b) false) = ((doC c r f).bind fun c' => doAll c' (s :: a) false).bind _
    cases doC c r f with
    | none => rfl
    | some c1 => exact ih c1
theorem doAll_app' {a b : List Rc} {c c1 : Cn} {f : Bool} (h : doAll c a f = some c1) (ha : a ≠ []) : doAll c (a ++ b) f = doAll c1 b false := by rw [doAll_app a b c f ha, h]; rfl
/-- Entries come one by one behind the base; what they say may be written. -/
structure CnOk (c : Cn) : Prop where
  seq : ∀ (j : Nat) (e : En), c.es[j]? = some e → e.ix = c.ix + 1 + j
  es : ∀ e ∈ c.es, RcOk (enR e)
  term : c.term < 9223372036854775808
  vote : c.vote < 9223372036854775808
  ix : c.ix < 9223372036854775808
  ah : c.ah < 9223372036854775808
theorem cnOk_zero : CnOk Cn.zero :=
  ⟨(fun j e h => by cases h), (fun e h => by cases h), (by decide), (by decide), (by decide), (by decide)⟩
theorem putC_some {c c' : Cn} {e : En} (h : putC c e = some c') : c.ix < e.ix ∧ e.ix - 1 ≤ c.ix + c.es.length ∧ c' = { c with es := c.es.take (e.ix - c.ix - 1) ++ [e] } := by
  unfold putC at h
  split at h
  · cases h
  · cases h; exact ⟨by omega, by omega, rfl⟩
theorem cnOk_put {c c' : Cn} {e : En} (h : CnOk c) (he : RcOk (enR e)) (hp : putC c e = some c') : CnOk c' := by
  obtain ⟨h1, h2, rfl⟩ := putC_some hp
  refine ⟨fun j x hx => ?_, fun x hx => ?_, h.term, h.vote, h.ix, h.ah⟩
  · have hl : (c.es.take (e.ix - c.ix - 1)).length = e.ix - c.ix - 1 := by rw [List.length_take]; omega
    simp only at hx ⊢
    by_cases hj : j < e.ix - c.ix - 1
    · rw [List.getElem?_append_left (by omega), List.getElem?_take, if_pos hj] at hx
      exact h.seq j x hx
    · rw [List.getElem?_append_right (by omega), hl] at hx
      have h0 : j - (e.ix - c.ix - 1) = 0 := by
        have := (List.getElem?_eq_some_iff.1 hx).1
        simpa using this
      rw [h0] at hx
      cases hx
      omega
  · rcases List.mem_append.1 hx with hx | hx
    · exact h.es x (List.mem_of_mem_take hx)
    · rw [List.mem_singleton.1 hx]; exact he
theorem rcOk_en {r : Rc} (h : RcOk r) (hk : r.k = 2) : RcOk (enR ⟨r.a, r.b, r.c, r.d⟩) := by
  refine ⟨h.a, h.b, h.c, .inl ⟨rfl, ?_⟩⟩
  rcases h.k with h | h
  · exact h.2
  · omega
theorem cnOk_do {c c' : Cn} {r : Rc} {f : Bool} (h : CnOk c) (hr : RcOk r) (hd : doC c r f = some c') : CnOk c' := by
  unfold doC at hd
  split at hd
  · cases hd
    exact ⟨h.seq, h.es, hr.a, hr.b, h.ix, h.ah⟩
  split at hd
  · rename_i hk
    exact cnOk_put h (rcOk_en hr hk) hd
  split at hd
  · cases hd
    exact ⟨(fun j e h => by cases h), (fun e h => by cases h), h.term, h.vote, hr.a, hr.b⟩
  · cases hd
theorem cnOk_all : ∀ {rs : List Rc} {c c' : Cn} {f : Bool}, CnOk c → (∀ r ∈ rs, RcOk r) → doAll c rs f = some c' → CnOk c'
  | [], c, c', f, h, _, hd => by cases hd; exact h
  | r :: rs, c, c', f, h, hr, hd => by
    obtain ⟨c1, h1, h2⟩ := Option.bind_eq_some_iff.1 (show (doC c r f).bind _ = some c' from hd)
    exact cnOk_all (cnOk_do h (hr r List.mem_cons_self) h1) (fun q hq => hr q (List.mem_cons_of_mem _ hq)) h2
theorem cnOk_len {c : Cn} (h : CnOk c) : c.ix + c.es.length < 9223372036854775808 := by
  rcases Nat.eq_zero_or_pos c.es.length with h0 | h0
  · rw [h0]; exact h.ix
  · have h1 := h.seq (c.es.length - 1) c.es[c.es.length - 1] (List.getElem?_eq_getElem (by omega))
    have h2 := (h.es c.es[c.es.length - 1] (List.getElem_mem _)).a
    simp only [enR] at h2
    omega
theorem logOn_flat {D : Dsk} {l : Lg} {lo : Nat} {segs : List (List Rc)} (h : LogOn D l lo segs) : segs.flatten ≠ [] := by
  obtain ⟨r, rs, ss, rfl, _⟩ := h.base
  simp
theorem LogOn.cn {D : Dsk} {l : Lg} {lo : Nat} {segs : List (List Rc)} (h : LogOn D l lo segs) : CnOk l.c := by
  refine cnOk_all cnOk_zero (fun r hr => ?_) h.c
  obtain ⟨s, hs, hr⟩ := List.mem_flatten.1 hr
  exact h.ok s hs r hr
theorem puts_do : ∀ {es : List EA} {c c' : Cn} (t v : Nat), putsA c es = some c' → doAll { c with term := t, vote := v } (es.map fun e => enR e.en) false = some { c' with term := t, vote := v }
  | [], c, c', t, v, h => by cases h; rfl
  | e :: es, c, c', t, v, h => by
    rw [putsA] at h
    split at h
    · cases h
    · obtain ⟨c1, h1, h2⟩ := Option.bind_eq_some_iff.1 h
      have ih := puts_do (es := es) t v h2
      obtain ⟨h3, h4, rfl⟩ := putC_some h1
      have e1 : doC { c with term := t, vote := v } (enR e.en) false = some { c with term := t, vote := v, es := c.es.take (e.en.ix - c.ix - 1) ++ [e.en] } := by
        unfold doC
        rw [if_neg (by simp [enR]), if_pos (show (enR e.en).k = 2 from rfl)]
        unfold putC
        rw [if_neg (by simp only [enR]; omega)]
        rfl
      show (doC { c with term := t, vote := v } (enR e.en) false).bind (fun c' => doAll c' (es.map fun e => enR e.en) false) = _
      rw [e1]
      exact ih
theorem puts_ok : ∀ {es : List EA} {c c' : Cn}, putsA c es = some c' → ∀ e ∈ es, 0 ≤ e.tm ∧ 0 ≤ e.kd ∧ 0 ≤ e.ix
  | [], _, _, _, e, h => by cases h
  | a :: es, c, c', h, e, he => by
    rw [putsA] at h
    split at h
    · cases h
    · obtain ⟨c1, h1, h2⟩ := Option.bind_eq_some_iff.1 h
      rcases List.mem_cons.1 he with rfl | he
      · exact ⟨by omega, by omega, by omega⟩
      · exact puts_ok h2 e he
def saveR (c : Cn) (t v : Nat) (es : List En) : List Rc := (if t ≠ c.term ∨ v ≠ c.vote then [stR t v] else []) ++ es.map enR
theorem saveB_is (c : Cn) (t v : Nat) (es : List En) : saveB c t v es = recsB (saveR c t v es) := by
  unfold saveB saveR
  rw [recsB_app]
  split <;> simp [recsB]
theorem save_do {es : List EA} {c c' : Cn} {t v : Nat} (h : putsA c es = some c') : doAll c (saveR c t v (es.map EA.en)) false = some { c' with term := t, vote := v } := by
  have h2 := puts_do t v h
  rw [show (es.map fun e => enR e.en) = (es.map EA.en).map enR by rw [List.map_map]; rfl] at h2
  unfold saveR
  by_cases hc : t ≠ c.term ∨ v ≠ c.vote
  · rw [if_pos hc]
    show (doC c (stR t v) false).bind _ = _
    rw [show doC c (stR t v) false = some { c with term := t, vote := v } from rfl]
    exact h2
  · rw [if_neg hc, List.nil_append]
    have e1 : t = c.term := Classical.byContradiction fun h => hc (.inl h)
    have e2 : v = c.vote := Classical.byContradiction fun h => hc (.inr h)
    subst e1 e2
    exact h2
theorem stR_ok {t v : Nat} (ht : t < 9223372036854775808) (hv : v < 9223372036854775808) : RcOk (stR t v) := ⟨ht, hv, by simp [stR], .inr ⟨.inl rfl, rfl, rfl⟩⟩
theorem baR_ok {t v : Nat} (ht : t < 9223372036854775808) (hv : v < 9223372036854775808) : RcOk (baR t v) := ⟨ht, hv, by simp [baR], .inr ⟨.inr rfl, rfl, rfl⟩⟩
def EAok (e : EA) : Prop := e.ix ≤ 9223372036854775807 ∧ e.tm ≤ 9223372036854775807 ∧ e.kd ≤ 9223372036854775807
theorem en_ok {e : EA} (h : EAok e) (hd : e.d.length ≤ 65536) : RcOk (enR e.en) := by
  obtain ⟨h1, h2, h3⟩ := h
  refine ⟨?_, ?_, ?_, .inl ⟨rfl, hd⟩⟩ <;> simp only [enR, EA.en] <;> omega
theorem saveR_ok {c : Cn} {t v : Nat} {es : List EA} (ht : t < 9223372036854775808) (hv : v < 9223372036854775808) (he : ∀ e ∈ es, EAok e) (hd : ¬ es.any (fun e => decide (65536 < e.d.length)) = true) : ∀ r ∈ saveR c t v (es.map EA.en), RcOk r := by
  intro r hr
  rcases List.mem_append.1 hr with hr | hr
  · split at hr
    · rw [List.mem_singleton.1 hr]; exact stR_ok ht hv
    · cases hr
  · obtain ⟨x, hx, rfl⟩ := List.mem_map.1 hr
    obtain ⟨e, he2, rfl⟩ := List.mem_map.1 hx
    refine en_ok (he e he2) (Nat.le_of_not_lt fun h => hd (List.any_eq_true.2 ⟨e, he2, decide_eq_true h⟩))
theorem saveR_k {c : Cn} {t v : Nat} {es : List En} : ∀ r ∈ saveR c t v es, r.k ≠ 3 := by
  intro r hr
  rcases List.mem_append.1 hr with hr | hr
  · split at hr
    · rw [List.mem_singleton.1 hr]; simp [stR]
    · cases hr
  · obtain ⟨x, hx, rfl⟩ := List.mem_map.1 hr
    simp [enR]
/-- The last file, or a new one: the files ahead of it, its records so far. -/
structure Tail (l : Lg) (lo : Nat) (segs s0 : List (List Rc)) (o : List (List Rc)) : Prop where
  app : segs = s0 ++ o
  one : o.length ≤ 1
  fi : (if 1024 ≤ l.long then l.file + 1 else l.file) = lo + s0.length
  long : (if 1024 ≤ l.long then 0 else l.long) = (recsB o.flatten).length
theorem tail_of {D : Dsk} {l : Lg} {lo : Nat} {segs : List (List Rc)} (h : LogOn D l lo segs) : ∃ s0 o, Tail l lo segs s0 o := by
  have hf := h.file
  by_cases hl : 1024 ≤ l.long
  · refine ⟨segs, [], by simp, by simp, ?_, ?_⟩
    · rw [if_pos hl]; exact hf
    · rw [if_pos hl]; rfl
  · have hlong := h.long
    rcases List.eq_nil_or_concat segs with rfl | ⟨s0, x, rfl⟩
    · cases hlong
    rw [List.concat_eq_append] at *
    refine ⟨s0, [x], rfl, by simp, ?_, ?_⟩
    · rw [if_neg hl]; rw [List.length_append, List.length_singleton] at hf; omega
    · rw [if_neg hl]
      rw [List.getLast?_append, List.getLast?_singleton] at hlong
      simp only [Option.some_or, Option.map_some, Option.some.injEq] at hlong
      rw [← hlong]; simp
theorem Tail.len {D : Dsk} {l : Lg} {lo : Nat} {segs s0 o : List (List Rc)} (h : LogOn D l lo segs) (ht : Tail l lo segs s0 o) : lo + s0.length ≤ l.file + 1 := by
  rw [← ht.fi]; split <;> omega
theorem on_more {D D' : Dsk} {l : Lg} {lo : Nat} {segs s0 o : List (List Rc)} (h : LogOn D l lo segs) (ht : Tail l lo segs s0 o) {new : List Rc} (hn : ∀ r ∈ new, RcOk r) (hk : ∀ r ∈ new, r.k ≠ 3) {c' : Cn} (hc : doAll l.c new false = some c') (hfew : l.file < 100000)
    (h1 : D'.off = false) (h2 : D'.ar = none) (h3 : D'.fs = setF D.fs ⟨nameF (lo + s0.length), recsB (o.flatten ++ new), (recsB (o.flatten ++ new)).length⟩) : LogOn D' ⟨c', lo + s0.length, (recsB (o.flatten ++ new)).length, 0⟩ lo (s0 ++ [o.flatten ++ new]) := by
  have hl := Tail.len h ht
  obtain ⟨app, one, fi, long⟩ := ht
  have hp : D.fs.Perm (segFs lo (s0 ++ o)) := app ▸ h.perm
  refine ⟨h1, h2, by rw [h3]; exact srt_set h.srt _, ?_, ?_, ?_, ?_, h.lo0, ?_, by simp only; omega, ?_, rfl⟩
  · rw [h3, segFs_app]
    exact set_last h.srt hp one rfl
  · intro rs hrs r hr
    rcases List.mem_append.1 hrs with hrs | hrs
    · exact h.ok rs (app ▸ List.mem_append_left _ hrs) r hr
    · rw [List.mem_singleton.1 hrs] at hr
      rcases List.mem_append.1 hr with hr | hr
      · obtain ⟨x, hx, hr⟩ := List.mem_flatten.1 hr
        exact h.ok x (app ▸ List.mem_append_right _ hx) r hr
      · exact hn r hr
  · obtain ⟨r, rs, ss, e, hr3, hss⟩ := h.base
    match s0, app with
    | [], app =>
      match o, one with
      | [], _ => rw [app] at e; cases e
      | [x], _ =>
        rw [app] at e
        cases e
        exact ⟨r, rs ++ new, [], by simp, hr3, fun s hs => by cases hs⟩
    | x :: s0, app =>
      rw [app] at e
      cases e
      refine ⟨r, rs, s0 ++ [o.flatten ++ new], rfl, hr3, fun s hs q hq => ?_⟩
      rcases List.mem_append.1 hs with hs | hs
      · exact hss s (List.mem_append_left _ hs) q hq
      · rw [List.mem_singleton.1 hs] at hq
        rcases List.mem_append.1 hq with hq | hq
        · obtain ⟨y, hy, hq⟩ := List.mem_flatten.1 hq
          exact hss y (List.mem_append_right _ hy) q hq
        · exact hk q hq
  · have e : (s0 ++ [o.flatten ++ new]).flatten = segs.flatten ++ new := by rw [app]; simp
    rw [e, doAll_app' h.c (logOn_flat h), hc]
  · simp only [List.length_append, List.length_singleton]; omega
  · simp
theorem saveL_quiet {D : Dsk} {l : Lg} {lo : Nat} {segs : List (List Rc)} (h : LogOn D l lo segs) (hfew : l.file < 100000) {t v : Int} {es : List EA} (ht : t ≤ 9223372036854775807) (hv : v ≤ 9223372036854775807) (he : ∀ e ∈ es, EAok e) :
    (∃ e, saveL D l t v es = (D, l, e) ∧ (putsA l.c es = none ∨ (t < 0 ∨ v < 0) ∨ es.any (fun e => decide (65536 < e.d.length)) = true ∨ saveB l.c t.toNat v.toNat (es.map EA.en) = [])) ∨
      ∃ c' s0 o l', putsA l.c es = some c' ∧ 0 ≤ t ∧ 0 ≤ v ∧ Tail l lo segs s0 o ∧ l'.file = lo + s0.length ∧ l'.c = { c' with term := t.toNat, vote := v.toNat } ∧ (saveL D l t v es).2 = (l', 0) ∧ LogOn (saveL D l t v es).1 l' lo (s0 ++ [o.flatten ++ saveR l.c t.toNat v.toNat (es.map EA.en)]) := by
  obtain ⟨s0, o, hT⟩ := tail_of h
  unfold saveL
  rw [if_neg (by rw [h.bad]; simp)]
  cases hp : putsA l.c es with
  | none => exact .inl ⟨_, rfl, .inl rfl⟩
  | some c' =>
    simp only
    split
    · rename_i htv; exact .inl ⟨_, rfl, .inr (.inl htv)⟩
    rename_i htv
    split
    · rename_i hlong; exact .inl ⟨_, rfl, .inr (.inr (.inl hlong))⟩
    rename_i hlong
    split
    · rename_i hb; exact .inl ⟨_, rfl, .inr (.inr (.inr hb))⟩
    rename_i hb
    have hlen := Tail.len h hT
    have hpm : D.fs.Perm (segFs lo (s0 ++ o)) := hT.app ▸ h.perm
    have hold := old_last h.srt hpm hT.one
    rw [saveB_is, hT.fi, hT.long]
    have hm1 := may_log h.off (show lo + s0.length < 1000000000 by omega)
    have r1 := doD_quiet (D := D) h.ar (kind := 0) (nm := nameF (lo + s0.length)) (p := recsB (saveR l.c t.toNat v.toNat (es.map EA.en))) (n := 0) hm1 (fun h => absurd h.1 (by decide))
    have e1 : doF D.fs 0 (nameF (lo + s0.length)) (recsB (saveR l.c t.toNat v.toNat (es.map EA.en))) (0 : Int).toNat = setF D.fs ⟨nameF (lo + s0.length), recsB (o.flatten ++ saveR l.c t.toNat v.toNat (es.map EA.en)), (recsB o.flatten).length⟩ := by
      show setF D.fs ⟨nameF (lo + s0.length), (oldF D.fs (nameF (lo + s0.length))).b ++ recsB (saveR l.c t.toNat v.toNat (es.map EA.en)), (oldF D.fs (nameF (lo + s0.length))).sure⟩ = _
      rw [hold, recsB_app]
    rw [e1] at r1
    rw [r1]
    have hg := getF_set h.srt ⟨nameF (lo + s0.length), recsB (o.flatten ++ saveR l.c t.toNat v.toNat (es.map EA.en)), (recsB o.flatten).length⟩ (nameF (lo + s0.length))
    rw [if_pos rfl] at hg
    have r2 := doD_quiet (D := { D with fs := setF D.fs ⟨nameF (lo + s0.length), recsB (o.flatten ++ saveR l.c t.toNat v.toNat (es.map EA.en)), (recsB o.flatten).length⟩ }) h.ar (kind := 1) (nm := nameF (lo + s0.length)) (p := []) (n := 0) (may_log_at (D := { D with fs := setF D.fs ⟨nameF (lo + s0.length), recsB (o.flatten ++ saveR l.c t.toNat v.toNat (es.map EA.en)), (recsB o.flatten).length⟩ }) h.off (by omega) hg) (fun h => absurd h.1 (by decide))
    have e2 : doF (setF D.fs ⟨nameF (lo + s0.length), recsB (o.flatten ++ saveR l.c t.toNat v.toNat (es.map EA.en)), (recsB o.flatten).length⟩) 1 (nameF (lo + s0.length)) [] (0 : Int).toNat = setF D.fs ⟨nameF (lo + s0.length), recsB (o.flatten ++ saveR l.c t.toNat v.toNat (es.map EA.en)), (recsB (o.flatten ++ saveR l.c t.toNat v.toNat (es.map EA.en))).length⟩ := by
      show setF _ ⟨_, (oldF _ _).b, (oldF _ _).b.length⟩ = _
      unfold oldF
      rw [hg]
      exact set_twice h.srt rfl
    rw [e2] at r2
    simp only [r2, ne_eq, not_true_eq_false, if_false]
    refine .inr ⟨c', s0, o, _, rfl, by omega, by omega, hT, rfl, rfl, rfl, ?_⟩
    have hlo : (recsB o.flatten).length + (recsB (saveR l.c t.toNat v.toNat (es.map EA.en))).length = (recsB (o.flatten ++ saveR l.c t.toNat v.toNat (es.map EA.en))).length := by rw [recsB_app, List.length_append]
    rw [hlo]
    exact on_more h hT (saveR_ok (by omega) (by omega) he hlong) saveR_k (save_do hp) hfew h.off h.ar rfl
end Go.Proofs.YtajapgjemefoiaaGreatDoor
/- Layer 19 (wal): the files of a log, as they lie in memory; which of them may follow one another, told file by file. Plain mathematics. -/
set_option linter.unusedVariables false
namespace Go.Proofs.YtajapgjemefoiaaGreatDoor
open Go.RowKit Go.SW
/-- A file: its records, each with its data's slice, and their row. -/
structure PV where
  k : Nat
  whole : Nat
  more : Bool
  rs : List (Rc × Value)
  A : Option Addr
  cap : Nat
instance : Inhabited PV := ⟨⟨0, 0, false, [], none, 0⟩⟩
abbrev PV.v (q : PV) : Value := .slice q.A q.rs.length q.cap
def PV.recs (q : PV) : List Rc := q.rs.map (·.1)
def PV.pt (q : PV) : Pt := ⟨q.k, q.recs, q.whole, q.more⟩
def pvC (q : PV) : List Value := [.int .i64 ((q.k : Nat) : Int), .int .i64 ((q.whole : Nat) : Int), .bool q.more, q.v]
theorem pvC_len (q : PV) : (pvC q).length = 4 := rfl
def rcC (q : Rc × Value) : List Value := [.int .i64 ((q.1.k : Nat) : Int), .int .i64 ((q.1.a : Nat) : Int), .int .i64 ((q.1.b : Nat) : Int), .int .i64 ((q.1.c : Nat) : Int), q.2]
theorem rcC_len (q : Rc × Value) : (rcC q).length = 5 := rfl
structure PvOk (c : Zone) (q : PV) : Prop where
  row : Row c q.v 5 q.rs.length (rowC rcC q.rs)
  ok : ∀ r ∈ q.rs, RB c r.2 r.1.d ∧ RcOk r.1
  k : q.k < 1000000000
  whole : q.whole ≤ 4294967296
theorem PvOk.mono {c c' : Zone} {q : PV} (h : PvOk c q) (hl : c.le c') : PvOk c' q := ⟨h.row.mono hl, fun r hr => ⟨(h.ok r hr).1.mono hl, (h.ok r hr).2⟩, h.k, h.whole⟩
theorem takeNum_lt (p : List UInt8) (h : (takeNum p).2.2 = 0) : (takeNum p).1 < 9223372036854775808 := by
  unfold takeNum at h ⊢
  split at h
  · simp at h
  rename_i h1
  split at h
  · simp at h
  rename_i h2
  split at h
  · simp at h
  rename_i h3
  split at h
  · simp at h
  rename_i h4
  split at h
  · simp at h
  rename_i h5
  rw [if_neg h1, if_neg h2, if_neg h3, if_neg h4, if_neg h5]
  simp only
  have hl : ((p.drop 1).take (gb p 0)).length = gb p 0 := by rw [List.length_take, List.length_drop]; omega
  by_cases h6 : gb p 0 ≤ 7
  · have h7 := beVal_lt ((p.drop 1).take (gb p 0))
    rw [hl] at h7
    have h8 : 256 ^ gb p 0 ≤ 256 ^ 7 := Nat.pow_le_pow_right (by omega) h6
    omega
  · have h7 : gb p 0 = 8 := by omega
    rw [h7] at hl h3 ⊢
    obtain ⟨c, d, l, rfl⟩ : ∃ c d l, p = c :: d :: l := by
      match p, h3 with
      | c :: d :: l, _ => exact ⟨c, d, l, rfl⟩
      | [c], h3 => simp at h3
      | [], h3 => simp at h3
    have h8 := beVal_cons_lt d (l.take 7)
    have h9 : d.toNat ≤ 127 := by
      have : gb (c :: d :: l) 1 = d.toNat := rfl
      omega
    have h10 : (l.take 7).length = 7 := by simp at h3; simp; omega
    rw [h10] at h8
    simp only [List.drop_succ_cons, List.drop_zero, List.take_succ_cons]
    omega
theorem takeBlob_le (p : List UInt8) : (takeBlob p).1.length ≤ 65536 := by
  unfold takeBlob
  split
  · simp
  split
  · simp
  split
  · simp
  · simp only [List.length_take, List.length_drop]; omega
def numK (p : List UInt8) : Nat := if (takeNum p).2.2 = 0 then (takeNum p).1 else 0
def numT (p : List UInt8) : List UInt8 := if (takeNum p).2.2 = 0 then p.drop (takeNum p).2.1 else p
theorem readR_bad {p : List UInt8} (h : ¬ ((takeNum p).2.2 = 0 ∧ (takeNum (numT p)).2.2 = 0 ∧ (takeNum (numT (numT p))).2.2 = 0)) : readR p = none := by
  unfold readR
  by_cases h1 : (takeNum p).2.2 = 0
  · have e1 : numT p = p.drop (takeNum p).2.1 := if_pos h1
    rw [e1] at h
    rw [if_neg (fun h2 => h2 h1)]
    by_cases h2 : (takeNum (p.drop (takeNum p).2.1)).2.2 = 0
    · have e2 : numT (p.drop (takeNum p).2.1) = (p.drop (takeNum p).2.1).drop (takeNum (p.drop (takeNum p).2.1)).2.1 := if_pos h2
      rw [e2] at h
      rw [if_neg (fun h3 => h3 h2), if_pos (fun h3 => h ⟨h1, h2, h3⟩)]
    · rw [if_pos h2]
  · rw [if_pos h1]
section
variable {p p1 p2 p3 p4 : List UInt8} (h : (takeNum p).2.2 = 0 ∧ (takeNum (numT p)).2.2 = 0 ∧ (takeNum (numT (numT p))).2.2 = 0)
include h
theorem readR_one : readR p = if numK p = 2 then
      (if (takeNum (numT (numT (numT p)))).2.2 ≠ 0 then none else
       if (takeBlob (numT (numT (numT (numT p))))).2.2 ≠ 0 then none else
       if (numT (numT (numT (numT p)))).drop (takeBlob (numT (numT (numT (numT p))))).2.1 = [] then some ⟨2, numK (numT p), numK (numT (numT p)), numK (numT (numT (numT p))), (takeBlob (numT (numT (numT (numT p))))).1⟩ else none)
    else if (numK p = 1 ∨ numK p = 3) ∧ numT (numT (numT p)) = [] then some ⟨numK p, numK (numT p), numK (numT (numT p)), 0, []⟩ else none := by
  obtain ⟨h1, h2, h3⟩ := h
  have e1 : numT p = p.drop (takeNum p).2.1 := if_pos h1
  have k1 : numK p = (takeNum p).1 := if_pos h1
  have e2 : numT (numT p) = (numT p).drop (takeNum (numT p)).2.1 := if_pos h2
  have k2 : numK (numT p) = (takeNum (numT p)).1 := if_pos h2
  have e3 : numT (numT (numT p)) = (numT (numT p)).drop (takeNum (numT (numT p))).2.1 := if_pos h3
  have k3 : numK (numT (numT p)) = (takeNum (numT (numT p))).1 := if_pos h3
  unfold readR
  simp only
  rw [if_neg (fun x => x h1), ← e1, if_neg (fun x => x h2), ← e2, if_neg (fun x => x h3), ← e3, ← k1, ← k2, ← k3]
  generalize numT (numT (numT p)) = p3
  generalize numK (numT (numT p)) = x2
  generalize numK (numT p) = x1
  generalize numK p = k
  by_cases hk : k = 2
  · rw [if_pos hk, if_pos hk]
    by_cases h4 : (takeNum p3).2.2 = 0
    · have e4 : numT p3 = p3.drop (takeNum p3).2.1 := if_pos h4
      have k4 : numK p3 = (takeNum p3).1 := if_pos h4
      rw [e4, k4]
    · have h5 : (takeNum p3).2.2 ≠ 0 := h4
      rw [if_pos h5, if_pos h5]
  · rw [if_neg hk, if_neg hk]
end
theorem readR_ok {p : List UInt8} {r : Rc} (h : readR p = some r) : RcOk r := by
  have hall : (takeNum p).2.2 = 0 ∧ (takeNum (numT p)).2.2 = 0 ∧ (takeNum (numT (numT p))).2.2 = 0 := Classical.byContradiction fun hx => by rw [readR_bad hx] at h; cases h
  rw [readR_one hall] at h
  have n2 : numK (numT p) < 9223372036854775808 := by unfold numK; rw [if_pos hall.2.1]; exact takeNum_lt _ hall.2.1
  have n3 : numK (numT (numT p)) < 9223372036854775808 := by unfold numK; rw [if_pos hall.2.2]; exact takeNum_lt _ hall.2.2
  generalize numK (numT p) = a at *
  generalize numK (numT (numT p)) = b at *
  generalize numT (numT (numT p)) = p3 at *
  generalize numK p = k at *
  by_cases hk : k = 2
  · rw [if_pos hk] at h
    by_cases h4 : (takeNum p3).2.2 = 0
    · rw [if_neg (show ¬ (takeNum p3).2.2 ≠ 0 from fun x => x h4)] at h
      have n4 : numK p3 < 9223372036854775808 := by unfold numK; rw [if_pos h4]; exact takeNum_lt _ h4
      generalize numK p3 = c at *
      generalize numT p3 = p4 at *
      by_cases h5 : (takeBlob p4).2.2 = 0
      · rw [if_neg (show ¬ (takeBlob p4).2.2 ≠ 0 from fun x => x h5)] at h
        by_cases h6 : p4.drop (takeBlob p4).2.1 = []
        · rw [if_pos h6] at h
          have n5 := takeBlob_le p4
          obtain rfl := Option.some.inj h
          exact ⟨n2, n3, n4, .inl ⟨rfl, n5⟩⟩
        · rw [if_neg h6] at h; cases h
      · rw [if_pos (show (takeBlob p4).2.2 ≠ 0 from h5)] at h; cases h
    · rw [if_pos (show (takeNum p3).2.2 ≠ 0 from h4)] at h; cases h
  · rw [if_neg hk] at h
    by_cases h7 : (k = 1 ∨ k = 3) ∧ p3 = []
    · rw [if_pos h7] at h
      obtain rfl := Option.some.inj h
      exact ⟨n2, n3, (by simp), .inr ⟨h7.1, rfl, rfl⟩⟩
    · rw [if_neg h7] at h; cases h
theorem takeBlob_used2 (b : List UInt8) : (takeBlob b).2.1 ≤ b.length := by
  have h := takeNum_used b
  unfold takeBlob
  split
  · simp
  split
  · simp
  split
  · simp
  · simp only; omega
def kPrev (ps : List PV) (i : Nat) : Nat := ((ps[i - 1]?).map PV.k).getD 0
def amiss (ps : List PV) (i : Nat) (q : PV) : Prop := 100000000 < q.k ∨ (0 < i ∧ kPrev ps i + 1 ≠ q.k) ∨ (q.more = true ∧ i + 1 < ps.length)
theorem okP_cons {p : Pt} {r : List Pt} : okP (p :: r) = true ↔ p.k ≤ 100000000 ∧ (∀ q, r[0]? = some q → p.more = false ∧ p.k + 1 = q.k) ∧ okP r = true := by
  cases r with
  | nil => simp [okP]
  | cons q r =>
    show (decide (p.k ≤ 100000000) && !p.more && decide (p.k + 1 = q.k) && okP (q :: r)) = true ↔ _
    simp only [Bool.and_eq_true, decide_eq_true_eq, Bool.not_eq_true', List.getElem?_cons_zero, Option.some.injEq]
    constructor
    · rintro ⟨⟨⟨h1, h2⟩, h3⟩, h4⟩
      exact ⟨h1, fun x hx => hx ▸ ⟨h2, h3⟩, h4⟩
    · rintro ⟨h1, h2, h3⟩
      exact ⟨⟨⟨h1, (h2 q rfl).1⟩, (h2 q rfl).2⟩, h3⟩
theorem okP_at : ∀ (ps : List PV), okP (ps.map PV.pt) = true ↔ ∀ (i : Nat) (q : PV), ps[i]? = some q → q.k ≤ 100000000 ∧ ∀ q2, ps[i + 1]? = some q2 → q.more = false ∧ q.k + 1 = q2.k
  | [] => by simp [okP]
  | p :: r => by
    rw [List.map_cons, okP_cons, okP_at r]
    constructor
    · rintro ⟨h1, h2, h3⟩ i q hq
      cases i with
      | zero =>
        cases hq
        refine ⟨h1, fun q2 hq2 => ?_⟩
        rw [Nat.zero_add, List.getElem?_cons_succ] at hq2
        have := h2 q2.pt (by rw [List.getElem?_map, hq2]; rfl)
        exact this
      | succ i => exact h3 i q hq
    · intro h
      refine ⟨(h 0 p rfl).1, fun q hq => ?_, fun i q hq => h (i + 1) q hq⟩
      rw [List.getElem?_map] at hq
      obtain ⟨q2, h2, rfl⟩ := Option.map_eq_some_iff.1 hq
      exact (h 0 p rfl).2 q2 h2
theorem okP_all {ps : List PV} (h : ∀ (i : Nat) (q : PV), ps[i]? = some q → ¬ amiss ps i q) : okP (ps.map PV.pt) = true := by
  rw [okP_at]
  intro i q hq
  have h1 := h i q hq
  unfold amiss at h1
  refine ⟨by omega, fun q2 hq2 => ?_⟩
  have hl := (List.getElem?_eq_some_iff.1 hq2).1
  have h2 := h (i + 1) q2 hq2
  unfold amiss kPrev at h2
  rw [Nat.add_sub_cancel, hq] at h2
  simp only [Option.map_some, Option.getD_some] at h2
  refine ⟨?_, by omega⟩
  cases hm : q.more with
  | false => rfl
  | true => exact absurd (.inr (.inr ⟨hm, hl⟩)) h1
theorem okP_not {ps : List PV} {i : Nat} {q : PV} (hq : ps[i]? = some q) (h : amiss ps i q) : ¬ okP (ps.map PV.pt) = true := by
  rw [okP_at]
  intro h2
  have hi := (List.getElem?_eq_some_iff.1 hq).1
  rcases h with h | ⟨h0, h⟩ | ⟨hm, hl⟩
  · have := (h2 i q hq).1; omega
  · have h3 : ps[i - 1]? = some ps[i - 1] := List.getElem?_eq_getElem (by omega)
    have := ((h2 (i - 1) _ h3).2 q (by rw [show i - 1 + 1 = i by omega]; exact hq)).2
    unfold kPrev at h
    rw [h3] at h
    simp only [Option.map_some, Option.getD_some] at h
    omega
  · have h3 : ps[i + 1]? = some ps[i + 1] := List.getElem?_eq_getElem hl
    have := ((h2 i q hq).2 _ h3).1
    rw [hm] at this; cases this
theorem fromP_snoc : ∀ (l : List Pt) (p : Pt), fromP (l ++ [p]) = if isBase p = true then some l.length else fromP l
  | [], p => by simp [fromP]
  | q :: l, p => by
    rw [List.cons_append, fromP, fromP_snoc l p]
    by_cases h : isBase p = true
    · rw [if_pos h, if_pos h]; rfl
    · rw [if_neg h, if_neg h]
      rfl
def fromV (o : Option Nat) : Int := match o with | some i => (i : Int) | none => -1
theorem fromP_at : ∀ {l : List Pt} {i : Nat}, fromP l = some i → ∃ p, l[i]? = some p ∧ isBase p = true
  | [], i, h => by cases h
  | q :: l, i, h => by
    rw [fromP] at h
    cases hl : fromP l with
    | none =>
      rw [hl] at h
      simp only at h
      split at h
      · rename_i hb; cases h; exact ⟨q, rfl, hb⟩
      · cases h
    | some j =>
      rw [hl] at h
      cases h
      obtain ⟨p, h1, h2⟩ := fromP_at hl
      exact ⟨p, h1, h2⟩
theorem isBase_pt (q : PV) : isBase q.pt = decide ((q.rs[0]?).map (·.1.k) = some 3) := by
  obtain ⟨k, w, m, rs, A, cap⟩ := q
  cases rs with
  | nil => rfl
  | cons r rs => simp [PV.pt, PV.recs, isBase]
theorem doAll_snoc (L : List Rc) (r : Rc) (c : Cn) (f : Bool) : doAll c (L ++ [r]) f = (doAll c L f).bind fun c' => doC c' r (f && L.isEmpty) := by
  cases L with
  | nil =>
    show (doC c r f).bind (fun c' => some c') = (some c).bind _
    simp
  | cons a L =>
    rw [doAll_app _ _ _ _ (by simp)]
    congr 1
    funext c'
    show (doC c' r false).bind (fun c' => some c') = _
    simp
theorem doAll_none {L M : List Rc} {c : Cn} {f : Bool} (h : doAll c L f = none) (hne : L ≠ []) : doAll c (L ++ M) f = none := by rw [doAll_app _ _ _ _ hne, h]; rfl
theorem doC_len {c c' : Cn} {r : Rc} {f : Bool} (h : doC c r f = some c') : c'.es.length ≤ c.es.length + 1 := by
  unfold doC at h
  split at h
  · cases h; simp
  split at h
  · obtain ⟨_, _, rfl⟩ := putC_some h
    simp only [List.length_append, List.length_take, List.length_singleton]; omega
  split at h
  · cases h; simp
  · cases h
theorem doAll_len : ∀ {L : List Rc} {c c' : Cn} {f : Bool}, doAll c L f = some c' → c'.es.length ≤ c.es.length + L.length
  | [], c, c', f, h => by cases h; simp
  | r :: L, c, c', f, h => by
    obtain ⟨c1, h1, h2⟩ := Option.bind_eq_some_iff.1 (show (doC c r f).bind _ = some c' from h)
    have := doAll_len h2
    have := doC_len h1
    rw [List.length_cons]; omega
def recsN (ds : List PV) (j : Nat) : List Rc := ((ds.take j).map PV.recs).flatten
theorem recsN_next {ds : List PV} {j : Nat} {q : PV} (h : ds[j]? = some q) : recsN ds (j + 1) = recsN ds j ++ q.recs := by
  have hj := (List.getElem?_eq_some_iff.1 h).1
  have he := (List.getElem?_eq_some_iff.1 h).2
  unfold recsN
  rw [List.take_succ_eq_append_getElem hj, he]
  simp
theorem recsN_all (ds : List PV) {j : Nat} (h : ds.length ≤ j) : recsN ds j = (ds.map PV.recs).flatten := by unfold recsN; rw [List.take_of_length_le h]
theorem recsN_split {ds : List PV} {j : Nat} {q : PV} (h : ds[j]? = some q) (k : Nat) : ∃ M, (ds.map PV.recs).flatten = recsN ds j ++ q.recs.take k ++ M := by
  have hj := (List.getElem?_eq_some_iff.1 h).1
  have he := (List.getElem?_eq_some_iff.1 h).2
  refine ⟨q.recs.drop k ++ ((ds.drop (j + 1)).map PV.recs).flatten, ?_⟩
  have : ds = ds.take j ++ q :: ds.drop (j + 1) := by rw [← he, ← List.drop_eq_getElem_cons hj, List.take_append_drop]
  conv => lhs; rw [this]
  have h2 : q.recs = q.recs.take k ++ q.recs.drop k := (List.take_append_drop k q.recs).symm
  unfold recsN
  rw [List.map_append, List.map_cons, List.flatten_append, List.flatten_cons]
  conv => lhs; rw [h2]
  simp only [List.append_assoc]
theorem recs_next {q : PV} {k : Nat} {r : Rc × Value} (h : q.rs[k]? = some r) : q.recs.take (k + 1) = q.recs.take k ++ [r.1] := by
  have hk := (List.getElem?_eq_some_iff.1 h).1
  have he := (List.getElem?_eq_some_iff.1 h).2
  unfold PV.recs
  rw [List.take_succ_eq_append_getElem (by rw [List.length_map]; exact hk), List.getElem_map, he]
theorem readL_pv {ps : List PV} (h : okP (ps.map PV.pt) = true) {f : Nat} (hf : fromP (ps.map PV.pt) = some f) : readL (ps.map PV.pt) = (doAll Cn.zero ((ps.drop f).map PV.recs).flatten true).map fun c => (f, c) := by
  unfold readL
  rw [if_pos h, hf]
  show (doAll Cn.zero ((((ps.map PV.pt).drop f).map (·.rs)).flatten) true).map _ = _
  rw [← List.map_drop, List.map_map]; rfl
theorem recsN_empty {ds : List PV} {q0 : PV} (h0 : ds[0]? = some q0) (hb : isBase q0.pt = true) {j k : Nat} {q : PV} (hq : ds[j]? = some q) (hk : k ≤ q.rs.length) : (recsN ds j ++ q.recs.take k).isEmpty = decide (j + k = 0) := by
  rw [Bool.eq_iff_iff, List.isEmpty_iff, decide_eq_true_eq]
  constructor
  · intro h
    have h1 := congrArg List.length h
    rw [List.length_append, List.length_nil] at h1
    have hk2 : (q.recs.take k).length = k := by unfold PV.recs; rw [List.length_take, List.length_map]; omega
    have hj : j = 0 := by
      rcases Nat.eq_zero_or_pos j with h2 | h2
      · exact h2
      · exfalso
        have h3 : ∃ x L, recsN ds j = x :: L := by
          match ds, h0, j, h2 with
          | p :: ds, h0, j + 1, _ =>
            cases h0
            rw [isBase_pt, decide_eq_true_eq] at hb
            obtain ⟨r, hr, _⟩ := Option.map_eq_some_iff.1 hb
            cases hrs : q0.rs with
            | nil => rw [hrs] at hr; cases hr
            | cons a rs => exact ⟨a.1, _, by unfold recsN PV.recs; rw [List.take_succ_cons, List.map_cons, List.flatten_cons, hrs]; rfl⟩
        obtain ⟨x, L, e⟩ := h3
        rw [e, List.length_cons] at h1
        omega
    omega
  · intro h
    have hj : j = 0 := by omega
    have hk0 : k = 0 := by omega
    subst hj hk0
    simp [recsN]
end Go.Proofs.YtajapgjemefoiaaGreatDoor
/- errors.Join at any errors; layer 19 (wal): read: what they answer. -/
set_option maxRecDepth 100000
set_option maxHeartbeats 2000000
set_option linter.unusedVariables false
set_option linter.unusedSimpArgs false
namespace Go.Proofs.YtajapgjemefoiaaGreatDoor
open Go.RowKit Go.SW
abbrev JQ := Bool × TypeId × Value
def jV (q : JQ) : Value := ifW q.1 q.2.1 q.2.2
def jE (e : Nat) : JQ := (e == 0, 38, .int .i64 ((e : Nat) : Int))
theorem jE_v (e : Nat) : jV (jE e) = errV e := by
  unfold jV jE ifW errV errW
  by_cases h : e = 0
  · subst h; rfl
  · rw [if_neg h, show (e == 0) = false from by simpa using h]; rfl
theorem ifW_cells (z : Bool) (T : TypeId) (v : Value) : (ifW z T v).cells = #[ifW z T v] := by cases z <;> rfl
def cnj (js : List JQ) : Nat := (js.filter fun q => !q.1).length
theorem cnj_le (js : List JQ) : cnj js ≤ js.length := List.length_filter_le _ _
theorem cnj_take_le (js : List JQ) (j : Nat) : cnj (js.take j) ≤ j := Nat.le_trans (cnj_le _) (List.length_take_le _ _)
theorem cnj_step {js : List JQ} {j : Nat} {q : JQ} (h : js[j]? = some q) : cnj (js.take (j + 1)) = cnj (js.take j) + (if q.1 = true then 0 else 1) := by
  have hj := (List.getElem?_eq_some_iff.1 h).1
  have he := (List.getElem?_eq_some_iff.1 h).2
  unfold cnj
  rw [List.take_succ_eq_append_getElem hj, List.filter_append, List.length_append, he]
  cases hq : q.1 <;> simp [hq]
theorem cnj_zero {js : List JQ} : cnj js = 0 ↔ ∀ q ∈ js, q.1 = true := by
  unfold cnj
  rw [List.length_eq_zero_iff, List.filter_eq_nil_iff]
  simp
theorem js_at {js : List JQ} {j : Nat} {q : JQ} (h : js[j]? = some q) : (js.map jV)[j * 1 + 0]? = some (ifW q.1 q.2.1 q.2.2) := by
  rw [Nat.mul_one, Nat.add_zero, List.getElem?_map, h]; rfl
theorem if_iface {z : Bool} {T : TypeId} {v : Value} (h : z = false) : ifW z T v = .iface T v := by rw [h]; rfl
theorem j3 {z : Bool} {a b c : Nat} (h : z = true ↔ ∀ q ∈ [jE a, jE b, jE c], q.1 = true) : z = true ↔ a = 0 ∧ b = 0 ∧ c = 0 := by
  rw [h]; simp [jE]
theorem j2 {z y : Bool} {T : TypeId} {v : Value} {a : Nat} (h : z = true ↔ ∀ q ∈ [((y, T, v) : JQ), jE a], q.1 = true) : z = true ↔ y = true ∧ a = 0 := by
  rw [h]; simp [jE]
theorem rn_set0 (p : List UInt8) (x1 x2 x3 x4 : Value) : (if (takeNum p).2.2 = 0 then [Value.int .i64 0, x1, x2, x3, x4].set 0 (Ni (takeNum p).1) else [Value.int .i64 0, x1, x2, x3, x4]) = [Ni (numK p), x1, x2, x3, x4] := by unfold numK; split <;> rfl
theorem rn_set1 (p : List UInt8) (x0 x2 x3 x4 : Value) : (if (takeNum p).2.2 = 0 then [x0, Value.int .i64 0, x2, x3, x4].set 1 (Ni (takeNum p).1) else [x0, Value.int .i64 0, x2, x3, x4]) = [x0, Ni (numK p), x2, x3, x4] := by unfold numK; split <;> rfl
theorem rn_set2 (p : List UInt8) (x0 x1 x3 x4 : Value) : (if (takeNum p).2.2 = 0 then [x0, x1, Value.int .i64 0, x3, x4].set 2 (Ni (takeNum p).1) else [x0, x1, Value.int .i64 0, x3, x4]) = [x0, x1, Ni (numK p), x3, x4] := by unfold numK; split <;> rfl
theorem rn_set3 (p : List UInt8) (x0 x1 x2 x4 : Value) : (if (takeNum p).2.2 = 0 then [x0, x1, x2, Value.int .i64 0, x4].set 3 (Ni (takeNum p).1) else [x0, x1, x2, Value.int .i64 0, x4]) = [x0, x1, x2, Ni (numK p), x4] := by unfold numK; split <;> rfl

theorem JoinG_ct (v0 : Value) (js : List JQ) (w : World) (hR : Row w.cell? v0 1 js.length (js.map jV)) (hl : js.length ≤ 65536) :
    Fun Tryz.prog 105 [v0] w fun v w' => ∃ b z, v = ifW z 213 (.pointer (some ⟨b, 0, none⟩)) ∧ (z = true ↔ ∀ q ∈ js, q.1 = true) ∧ Fresh w w' [] := by
 obtain ⟨A0, c0, rfl, hR1, hR2⟩ := hR.form
 have hcl := cnj_le js
 refine fun_of_sw Tryz.func105 rfl 47 rfl rfl ?_
 have hH := Hp.start w
 refine sw_sr <| Go0 1 <| Dn <| sw_sr <| Go1 1 3 (.int .i64 0) <| Dn <| sw_seq <| sw_sr <| Go1 1 9 (.slice A0 js.length c0) <| Gq rfl (Ln (e := 35) rfl) <| Go1 1 11 (.int .i64 0) <| Dn <| sw_block <| Lp (γ := Nat) hH (fun j => [(0, .slice A0 js.length c0), (3, Ni (cnj (js.take j))), (9, .slice A0 js.length c0), (10, Ni js.length), (11, Ni j)]) (fun j w_ H_ => (j ≤ js.length) ∧ H_ []) (fun j => js.length - j) (0) ?_ ?_
 · exact ⟨by omega, hH⟩
 clear hH
 rintro j w1 ⟨hj, hH⟩
 have hcz := cnj_take_le js j
 refine swk [(0, .slice A0 js.length c0), (3, Ni (cnj (js.take j))), (9, .slice A0 js.length c0), (10, Ni js.length), (11, Ni j)] <| sw_sr <| Go1 1 12 (.bool (decide ((j : Int) < ((js.length : Nat) : Int)))) <| Dn <| sw_seq <| If rfl (fun hc1 => ?_) (fun hc1 => ?_)
 refine Sk <| sw_seq <| sw_block ?_
 obtain ⟨⟨qz, qT, qv⟩, hq⟩ : ∃ q, js[j]? = some q := ⟨_, List.getElem?_eq_getElem (by omega)⟩
 have hst := cnj_step hq
 simp only at hst
 refine sw_sr ?_
 obtain ⟨p2, hi4, hp3⟩ := hR.idx j (by omega) (by decide)
 refine Gq rfl (Ix (e := 35) 1 rfl rfl hi4) <| Gq rfl (rd_load (by kernel_rfl) rfl (hH.zin _ _ (hp3 0 _ (by decide) (js_at hq)))) <| Go1 1 5 (ifW qz qT qv) <| Dn <| sw_sr <| Go1 1 15 (ifW qz qT qv) <| Gq rfl (rd_if_ne (by kernel_rfl) rfl) <| Dn <| If rfl (fun hc2 => ?_) (fun hc2 => ?_)
 have hnz := hc2
 have hnz0 : ¬ qz = true := by simpa using hc2
 refine sw_region <| Gc0 2 18 (.int .i64 (IntKind.i64.wrap (((cnj (js.take j) : Nat) : Int) + 1))) (Ni (cnj (js.take (j + 1)))) (by rw [hst, if_neg hnz0]; exact cv_i64 (by omega)) <| Go1 1 3 (Ni (cnj (js.take (j + 1)))) <| Dd <| bkN <| sw_next <| sw_region <| Gw0 1 19 ((j : Int) + 1) ((j + 1 : Nat) : Int) <| Go1 1 11 (Ni (j + 1)) <| Dd <| rnd_end (g := (j)) (j + 1) (by kernel_rfl) ?_ ?_
 · exact ⟨by omega, hH⟩
 · show js.length - (j + 1) < js.length - j; omega
 have hnz1 : qz = true := by simpa using hc2
 refine sw_cv 3 (Ni (cnj (js.take (j + 1)))) (by rw [hst, if_pos hnz1]; rfl) rfl <| sw_skip <| bkN <| sw_next <| sw_region <| Gw0 1 19 ((j : Int) + 1) ((j + 1 : Nat) : Int) <| Go1 1 11 (Ni (j + 1)) <| Dd <| rnd_end (g := (j)) (j + 1) (by kernel_rfl) ?_ ?_
 · exact ⟨by omega, hH⟩
 · show js.length - (j + 1) < js.length - j; omega
 have hje : j = js.length := by omega
 rw [show js.take j = js from by rw [hje, List.take_length]]
 refine sw_exit <| thX <| thX <| bkH <| sw_next <| sw_seq <| sw_sr <| Go2 2 3 (Ni (cnj js)) 21 (.bool (((cnj js : Nat) : Int) == (0 : Int))) <| Dn <| If rfl (fun hc3 => ?_) (fun hc3 => ?_)
 refine sw_sr <| Go1 1 2 (.nilIface) <| Dn <| Rt1 rfl rfl ?_
 exact ⟨0, true, rfl, ⟨fun _ => cnj_zero.1 (by omega), fun _ => rfl⟩, (hH.sb sln).fresh⟩
 refine Sk <| sw_sr <| Go1 1 22 (Ni (cnj js)) <| gl_st (st_makeC (e := 35) (zv := .nilIface) (bytes := 16) rfl rfl rfl (by kernel_rfl) (by kernel_rfl) rfl (cnj js) rfl rfl (by omega) (by unfold maxLen; omega) hH ?_)
 clear hH; intro b5 w6 hH
 refine Go1 1 24 (.agg #[.slice (some ⟨b5, 0, none⟩) 0 (cnj js)]) <| gl_st (Bx [.slice (some ⟨b5, 0, none⟩) 0 (cnj js)] rfl hH ?_)
 clear hH; intro b7 w8 hH
 refine Go1 1 6 (Pp b7 0) <| Dn <| sw_seq <| sw_sr <| Go1 1 26 (.slice A0 js.length c0) <| Gq rfl (Ln (e := 35) rfl) <| Go1 1 28 (.int .i64 0) <| Dn <| sw_block <| Lp (γ := Nat × Option Addr × Nat × Nat × List Value) hH (fun (j, A, c, q, xs) => [(6, Pp b7 0), (26, .slice A0 js.length c0), (27, Ni js.length), (28, Ni j)]) (fun (j, A, c, q, xs) w_ H_ => (j ≤ js.length) ∧ (q ≤ j) ∧ H_ [.row (.slice A q c) 35 1 q xs, .blk b7 215 [.slice A q c]]) (fun (j, A, c, q, xs) => js.length - j) (0, (some ⟨b5, 0, none⟩), cnj js, 0, []) ?_ ?_
 · exact ⟨by omega, by omega, hH⟩
 clear hH
 rintro ⟨j, A, c, q, xs⟩ w9 ⟨hj, hqj, hH⟩
 refine swk [(6, Pp b7 0), (26, .slice A0 js.length c0), (27, Ni js.length), (28, Ni j)] <| sw_sr <| Go1 1 29 (.bool (decide ((j : Int) < ((js.length : Nat) : Int)))) <| Dn <| sw_seq <| If rfl (fun hc4 => ?_) (fun hc4 => ?_)
 refine Sk <| sw_seq <| sw_block ?_
 obtain ⟨⟨qz, qT, qv⟩, hq⟩ : ∃ q, js[j]? = some q := ⟨_, List.getElem?_eq_getElem (by omega)⟩
 have hst := cnj_step hq
 simp only at hst
 refine sw_sr ?_
 obtain ⟨p10, hi12, hp11⟩ := hR.idx j (by omega) (by decide)
 refine Gq rfl (Ix (e := 35) 1 rfl rfl hi12) <| Gq rfl (rd_load (by kernel_rfl) rfl (hH.zin _ _ (hp11 0 _ (by decide) (js_at hq)))) <| Go1 1 8 (ifW qz qT qv) <| Dn <| sw_sr <| Go1 1 32 (ifW qz qT qv) <| Gq rfl (rd_if_ne (by kernel_rfl) rfl) <| Dn <| If rfl (fun hc5 => ?_) (fun hc5 => ?_)
 have hnz := hc5
 refine sw_region <| Go2 4 34 (Pp b7 0) 37 (Pp b7 0) <| Gq rfl (Lk 1 hH rfl rfl rfl) <| Go1 1 39 (ifW qz qT qv) <| gl_cv 39 (.iface qT (qv)) (if_iface hnz) rfl <| gl_st (st_buildS (e := 35) (zv := .nilIface) (m := 1) (bytes := 16) rfl rfl rfl (by kernel_rfl) (by kernel_rfl) rfl (cs := [.iface qT (qv)]) (by kernel_rfl) rfl hH ?_)
 clear hH; intro b13 w14 hH
 refine gl_st (Apd (e := 35) (.nilIface) 1 16 0 rfl hH rfl rfl rfl (hH.row_reads 2 rfl) (by simp [Value.oneCell']) (by unfold maxLen; omega) (by omega) ?_)
 clear hH; intro v15 w16 hH
 obtain ⟨A17, c18, rfl, hl19, hm20⟩ := hH.row_form 0 rfl
 refine Go1 2 43 (Pp b7 0) <| gl_st (Ks 1 (.slice A17 (q + 1) c18) rfl hH rfl rfl ?_)
 clear hH; intro w21 hH
 refine Dd <| bkN <| sw_next <| sw_region <| Gw0 1 44 ((j : Int) + 1) ((j + 1 : Nat) : Int) <| Go1 1 28 (Ni (j + 1)) <| Dd <| rnd_end (g := (j, A, c, q, xs)) (j + 1, A17, c18, q + 1, xs ++ [.iface qT (qv)]) (by kernel_rfl) ?_ ?_
 · exact ⟨by omega, by omega, (hH.sb (slk (slk sln)))⟩
 · show js.length - (j + 1) < js.length - j; omega
 refine sw_skip <| bkN <| sw_next <| sw_region <| Gw0 1 44 ((j : Int) + 1) ((j + 1 : Nat) : Int) <| Go1 1 28 (Ni (j + 1)) <| Dd <| rnd_end (g := (j, A, c, q, xs)) (j + 1, A, c, q, xs) (by kernel_rfl) ?_ ?_
 · exact ⟨by omega, by omega, (hH.sb (slk (slk sln)))⟩
 · show js.length - (j + 1) < js.length - j; omega
 refine sw_exit <| thX <| thX <| bkH <| sw_next <| sw_sr <| Go1 3 2 (.iface 213 (Pp b7 0)) <| Dn <| Rt1 rfl rfl ?_
 exact ⟨_, false, rfl, ⟨fun h => Bool.noConfusion h, fun h => absurd (cnj_zero.2 h) (by omega)⟩, (hH.sb sln).fresh⟩
theorem Read_ct (vp : Value) (p : List UInt8) (w : World) (hp : RB w.cell? vp p) :
    Fun Tryz.prog 67 [vp] w fun v w' => (∃ fb, readR p = none ∧ v = .tuple #[.agg #[.int .i64 0, .int .i64 0, .int .i64 0, .int .i64 0, .slice none 0 0], .iface 178 (.pointer (some ⟨fb, 0, none⟩))] ∧ Fresh w w' [.blk fb 180 [.int .i64 90, .int .i64 0]]) ∨
      (∃ r vd, readR p = some r ∧ v = .tuple #[.agg #[.int .i64 ((r.k : Nat) : Int), .int .i64 ((r.a : Nat) : Int), .int .i64 ((r.b : Nat) : Int), .int .i64 ((r.c : Nat) : Int), vd], .nilIface] ∧ Fresh w w' [.row vd 5 1 r.d.length (bv r.d)]) := by
 obtain ⟨Ap, cp, rfl, hp1, hp2⟩ := hp.row.form
 refine fun_of_sw Tryz.func67 rfl 64 rfl rfl ?_
 have hH := Hp.start w
 refine sw_sr <| gl_st (Bx [.slice Ap p.length cp] rfl hH ?_)
 clear hH; intro b1 w2 hH
 refine gl_st (Alc [.int .i64 0, .int .i64 0, .int .i64 0, .int .i64 0, .slice none 0 0] rfl hH ?_)
 clear hH; intro b3 w4 hH
 refine Go0 1 <| Dn <| sw_sr <| gl_st (Alc [.int .i64 0, .int .i64 0, .int .i64 0, .int .i64 0, .slice none 0 0] rfl hH ?_)
 clear hH; intro b5 w6 hH
 refine Dn <| sw_sr <| Go1 2 5 (.func (.func 103) #[] #[Pp b1 0]) <| Dn <| sw_sr <| Go2 2 11 (.func (.func 103) #[] #[Pp b1 0]) 12 (Pp b5 0) ?_
 replace hH : Hp w w6 _ _ ([_, _] ++ [_]) := hH.fr3.fr2
 refine gl_st (st_callv rfl rfl rfl (by kernel_rfl) rfl rfl (ReadNum_ct b1 b5 0 _ p [.int .i64 0, .int .i64 0, .int .i64 0, .int .i64 0, .slice none 0 0] _ hH.mine (hp.mono hH.zoff) (by simp)) ?_)
 rintro _ w12 ⟨vp7, rfl, hN8, hF13⟩
 replace hH := hH.turns hF13
 have hq9 : RB w.cell? vp7 (numT p) := hN8 _ hp
 obtain ⟨A10, c11, rfl, _, _⟩ := hq9.row.form
 replace hH := hH.n3
 replace hH := hH.blk_eq 2 (cs' := [Ni (numK p), .int .i64 0, .int .i64 0, .int .i64 0, .slice none 0 0]) rfl (rn_set0 _ (.int .i64 0) (.int .i64 0) (.int .i64 0) (.slice none 0 0))
 refine Go2 2 14 (.func (.func 103) #[] #[Pp b1 0]) 15 (Pp b5 1) ?_
 replace hH : Hp w w12 _ _ ([_, _] ++ [_]) := hH.fr3.fr3
 refine gl_st (st_callv rfl rfl rfl (by kernel_rfl) rfl rfl (ReadNum_ct b1 b5 1 _ (numT p) [Ni (numK p), .int .i64 0, .int .i64 0, .int .i64 0, .slice none 0 0] _ hH.mine (hq9.mono hH.zoff) (by simp)) ?_)
 rintro _ w19 ⟨vp14, rfl, hN15, hF20⟩
 replace hH := hH.turns hF20
 have hq16 : RB w.cell? vp14 (numT (numT p)) := hN15 _ hq9
 obtain ⟨A17, c18, rfl, _, _⟩ := hq16.row.form
 replace hH := hH.n3
 replace hH := hH.blk_eq 2 (cs' := [Ni (numK p), Ni (numK (numT p)), .int .i64 0, .int .i64 0, .slice none 0 0]) rfl (rn_set1 _ (Ni (numK p)) (.int .i64 0) (.int .i64 0) (.slice none 0 0))
 refine Go2 2 17 (.func (.func 103) #[] #[Pp b1 0]) 18 (Pp b5 2) ?_
 replace hH : Hp w w19 _ _ ([_, _] ++ [_]) := hH.fr3.fr3
 refine gl_st (st_callv rfl rfl rfl (by kernel_rfl) rfl rfl (ReadNum_ct b1 b5 2 _ (numT (numT p)) [Ni (numK p), Ni (numK (numT p)), .int .i64 0, .int .i64 0, .slice none 0 0] _ hH.mine (hq16.mono hH.zoff) (by simp)) ?_)
 rintro _ w26 ⟨vp21, rfl, hN22, hF27⟩
 replace hH := hH.turns hF27
 have hq23 : RB w.cell? vp21 (numT (numT (numT p))) := hN22 _ hq16
 obtain ⟨A24, c25, rfl, _, _⟩ := hq23.row.form
 replace hH := hH.n3
 replace hH := hH.blk_eq 2 (cs' := [Ni (numK p), Ni (numK (numT p)), Ni (numK (numT (numT p))), .int .i64 0, .slice none 0 0]) rfl (rn_set2 _ (Ni (numK p)) (Ni (numK (numT p))) (.int .i64 0) (.slice none 0 0))
 refine gl_st (st_buildF (e := 35) (zv := .nilIface) (bytes := 16) rfl rfl rfl (by kernel_rfl) (by kernel_rfl) rfl (cs := [errV ((takeNum p).2.2), errV ((takeNum (numT p)).2.2), errV ((takeNum (numT (numT p))).2.2)]) (by kernel_rfl) (by simp [errW_cells]) rfl hH ?_)
 clear hH; intro b28 w29 hH
 refine gl_st (Sc rfl rfl (JoinG_ct _ [jE ((takeNum p).2.2), jE ((takeNum (numT p)).2.2), jE ((takeNum (numT (numT p))).2.2)] _ (by have h9 := hH.row_reads 3 rfl; simp only [← jE_v] at h9; exact h9) (by simp)) ?_)
 rintro _ w33 ⟨b30, z31, rfl, hz32, hF34⟩
 replace hH := hH.call hF34
 replace hz32 := j3 hz32
 refine Go1 1 6 (ifW z31 213 (.pointer (some ⟨b30, 0, none⟩))) <| Dn <| sw_seq <| sw_sr <| Go1 1 22 (Pp b5 0) <| Gq rfl (Lk 2 hH rfl rfl rfl) <| Dn <| sw_block <| sw_seq <| sw_block <| sw_seq <| sw_block <| sw_seq <| sw_seq <| sw_sr <| Go1 2 24 (.bool (((numK p : Nat) : Int) == (2 : Int))) <| Dn <| If rfl (fun hc1 => ?_) (fun hc1 => ?_)
 have hk2 : numK p = 2 := by omega
 refine sw_exit <| thX <| thX <| bkH <| sw_next <| sw_sr <| Go3 3 29 (ifW z31 213 (.pointer (some ⟨b30, 0, none⟩))) 30 (.func (.func 103) #[] #[Pp b1 0]) 31 (Pp b5 3) ?_
 replace hH : Hp w w33 _ _ ([_, _] ++ [_, _]) := hH.fr3.fr3
 refine gl_st (st_callv rfl rfl rfl (by kernel_rfl) rfl rfl (ReadNum_ct b1 b5 3 _ (numT (numT (numT p))) [Ni (numK p), Ni (numK (numT p)), Ni (numK (numT (numT p))), .int .i64 0, .slice none 0 0] _ hH.mine (hq23.mono hH.zoff) (by simp)) ?_)
 rintro _ w40 ⟨vp35, rfl, hN36, hF41⟩
 replace hH := hH.turns hF41
 have hq37 : RB w.cell? vp35 (numT (numT (numT (numT p)))) := hN36 _ hq23
 obtain ⟨A38, c39, rfl, _, _⟩ := hq37.row.form
 replace hH := hH.n4
 replace hH := hH.blk_eq 3 (cs' := [Ni (numK p), Ni (numK (numT p)), Ni (numK (numT (numT p))), Ni (numK (numT (numT (numT p)))), .slice none 0 0]) rfl (rn_set3 _ (Ni (numK p)) (Ni (numK (numT p))) (Ni (numK (numT (numT p)))) (.slice none 0 0))
 refine gl_st (st_buildF (e := 35) (zv := .nilIface) (bytes := 16) rfl rfl rfl (by kernel_rfl) (by kernel_rfl) rfl (cs := [ifW z31 213 (.pointer (some ⟨b30, 0, none⟩)), errV ((takeNum (numT (numT (numT p)))).2.2)]) (by kernel_rfl) (by simp [errW_cells, ifW_cells]) rfl hH ?_)
 clear hH; intro b42 w43 hH
 refine gl_st (Sc rfl rfl (JoinG_ct _ [(z31, 213, .pointer (some ⟨b30, 0, none⟩)), jE ((takeNum (numT (numT (numT p)))).2.2)] _ (by have h9 := hH.row_reads 4 rfl; simp only [← jE_v] at h9; exact h9) (by simp)) ?_)
 rintro _ w47 ⟨b44, z45, rfl, hz46, hF48⟩
 replace hH := hH.call hF48
 replace hz46 := j2 hz46
 refine Go1 1 6 (ifW z45 213 (.pointer (some ⟨b44, 0, none⟩))) <| Dn <| sw_sr <| Gq rfl (Lk 2 hH rfl rfl rfl) <| gl_st (Sc rfl rfl (TakeBlob_ct _ _ _ (hq37.mono hH.zin)) ?_)
 rintro _ w51 ⟨v49, rfl, hF52⟩
 replace hH := hH.call hF52
 obtain ⟨A53, c54, rfl, hl55, hm56⟩ := hH.row_form 5 rfl
 refine glo 7 [(1, Pp b1 0), (2, Pp b3 0), (4, Pp b5 0), (6, ifW z45 213 (.pointer (some ⟨b44, 0, none⟩))), (7, .slice A53 (((takeBlob (numT (numT (numT (numT p))))).1).length) c54), (8, Ni ((takeBlob (numT (numT (numT (numT p))))).2.1)), (9, errV ((takeBlob (numT (numT (numT (numT p))))).2.2))] <| Dn <| sw_sr <| Go2 2 41 (ifW z45 213 (.pointer (some ⟨b44, 0, none⟩))) 42 (errV ((takeBlob (numT (numT (numT (numT p))))).2.2)) <| gl_st (st_buildF (e := 35) (zv := .nilIface) (bytes := 16) rfl rfl rfl (by kernel_rfl) (by kernel_rfl) rfl (cs := [ifW z45 213 (.pointer (some ⟨b44, 0, none⟩)), errV ((takeBlob (numT (numT (numT (numT p))))).2.2)]) (by kernel_rfl) (by simp [errW_cells, ifW_cells]) rfl hH ?_)
 clear hH; intro b57 w58 hH
 refine gl_st (Sc rfl rfl (JoinG_ct _ [(z45, 213, .pointer (some ⟨b44, 0, none⟩)), jE ((takeBlob (numT (numT (numT (numT p))))).2.2)] _ (by have h9 := hH.row_reads 6 rfl; simp only [← jE_v] at h9; exact h9) (by simp)) ?_)
 rintro _ w62 ⟨b59, z60, rfl, hz61, hF63⟩
 replace hH := hH.call hF63
 replace hz61 := j2 hz61
 refine Go1 1 6 (ifW z60 213 (.pointer (some ⟨b59, 0, none⟩))) <| Dn <| sw_sr <| Go1 1 45 (ifW z60 213 (.pointer (some ⟨b59, 0, none⟩))) <| Gq rfl (rd_if_eq (by kernel_rfl) rfl) <| Dn <| If rfl (fun hc2 => ?_) (fun hc2 => ?_)
 have hz3t := hc2
 have hub := takeBlob_used2 (numT (numT (numT (numT p))))
 refine Dr hH (slk (slk (slc (slc (slk (slk (slk sln))))))) ?_
 clear hH; intro w64 hH hS9
 refine Gp3 3 [0,2,4] 47 (.slice A53 (((takeBlob (numT (numT (numT (numT p))))).1).length) c54) 49 (Ni ((takeBlob (numT (numT (numT (numT p))))).2.1)) 51 (Pp b5 4) hS9 <| gd_st2 1 5 (by kernel_rfl) ?_ ?_
 refine st_q rfl rfl rfl (Lk 2 hH rfl rfl rfl) <| Nl hS9 fun hS9 => gdk [(1, Pp b1 0), (2, Pp b3 0), (4, Pp b5 0), (6, ifW z60 213 (.pointer (some ⟨b59, 0, none⟩))), (47, .slice A53 (((takeBlob (numT (numT (numT (numT p))))).1).length) c54), (48, .slice A38 ((numT (numT (numT (numT p)))).length) c39), (49, Ni ((takeBlob (numT (numT (numT (numT p))))).2.1)), (51, Pp b5 4)] ?_
 obtain ⟨A65, hk66, hv67⟩ := hq37.row.cut (by decide) ((takeBlob (numT (numT (numT (numT p))))).2.1) ((numT (numT (numT (numT p)))).length) (by omega) (by omega)
 refine Dq 3 rfl (fun _ hS => (rd_cut (e := 5) (m := 1) (by kernel_rfl) (by kernel_rfl) rfl (.inr ⟨_, _, rfl, rfl⟩) (.inl ⟨rfl, rfl⟩) hk66)) hS9 ?_
 have hr68 := RB.tail hv67
 refine gds 5 (Ks 3 (.slice A53 (((takeBlob (numT (numT (numT (numT p))))).1).length) c54) rfl hH rfl rfl ?_)
 clear hH; intro w69 hH
 refine Nl (hH.sb (slk (slk (slc (slc (slk (slk (slk sln)))))))) fun hS9 => gds 6 (Ks 2 (.slice A65 (((numT (numT (numT (numT p)))).length) - ((takeBlob (numT (numT (numT (numT p))))).2.1)) (c39 - ((takeBlob (numT (numT (numT (numT p))))).2.1))) rfl hH rfl rfl ?_)
 clear hH; intro w70 hH
 refine Nl (hH.sb (slk (slk (slc (slc (slk (slk (slk sln)))))))) fun hS9 => gdn [(1, Pp b1 0), (2, Pp b3 0), (4, Pp b5 0), (6, ifW z60 213 (.pointer (some ⟨b59, 0, none⟩)))] <| bkN <| sw_next <| sw_seq <| sw_sr <| Go1 1 52 (ifW z60 213 (.pointer (some ⟨b59, 0, none⟩))) <| Gq rfl (rd_if_eq (by kernel_rfl) rfl) <| Go1 1 54 (.bool z60) <| Gi 54 rfl (fun hg3 => ?_) (fun hg3 => ?_)
 have hn2 := hz61.1 hg3
 have hn1 := hz46.1 hn2.1
 have hall := hz32.1 hn1.1
 have he4 := hn1.2
 have he5 := hn2.2
 have hn4 : ¬ (takeNum (numT (numT (numT p)))).2.2 ≠ 0 := fun h => h he4
 have hn5 : ¬ (takeBlob (numT (numT (numT (numT p))))).2.2 ≠ 0 := fun h => h he5
 refine Gq rfl (Lk 2 hH rfl rfl rfl) <| Gq rfl (Ln (e := 5) rfl) <| Go1 2 58 (.bool (((((numT (numT (numT (numT p)))).length) - ((takeBlob (numT (numT (numT (numT p))))).2.1) : Nat) : Int) == (0 : Int))) <| Dn <| If rfl (fun hc4 => ?_) (fun hc4 => ?_)
 have hnil : (numT (numT (numT (numT p)))).drop (takeBlob (numT (numT (numT (numT p))))).2.1 = [] := List.eq_nil_of_length_eq_zero (by first | omega | (simp only [List.length_drop] at *; omega))
 refine sw_sr <| Gq rfl (La 3 [Ni (numK p), Ni (numK (numT p)), Ni (numK (numT (numT p))), Ni (numK (numT (numT (numT p)))), .slice A53 (((takeBlob (numT (numT (numT (numT p))))).1).length) c54] hH rfl rfl) <| gl_st (Ka 0 [Ni (numK p), Ni (numK (numT p)), Ni (numK (numT (numT p))), Ni (numK (numT (numT (numT p)))), .slice A53 (((takeBlob (numT (numT (numT (numT p))))).1).length) c54] [Ni (numK p), Ni (numK (numT p)), Ni (numK (numT (numT p))), Ni (numK (numT (numT (numT p)))), .slice A53 (((takeBlob (numT (numT (numT (numT p))))).1).length) c54] rfl hH rfl rfl ?_)
 clear hH; intro w71 hH
 refine Go1 1 3 (.nilIface) <| Dn <| sw_ret <| thR <| bkR <| thR <| retC2 rfl (RS.cellA hH 0 (by kernel_rfl) rfl rfl (by kernel_rfl) [Ni (numK p), Ni (numK (numT p)), Ni (numK (numT (numT p))), Ni (numK (numT (numT (numT p)))), .slice A53 (((takeBlob (numT (numT (numT (numT p))))).1).length) c54] rfl rfl) (RS.tmp rfl) ?_
 have hr : readR p = some ⟨numK p, numK (numT p), numK (numT (numT p)), numK (numT (numT (numT p))), (takeBlob (numT (numT (numT (numT p))))).1⟩ := by rw [readR_one hall, if_pos hk2, if_neg hn4, if_neg hn5, if_pos hnil, hk2]
 replace hH := (hH.sb (slc (slc (slc (slc (slc (slk sln)))))))
 replace hH : Hp w w71 _ _ [.row (.slice A53 (((takeBlob (numT (numT (numT (numT p))))).1).length) c54) 5 1 (((takeBlob (numT (numT (numT (numT p))))).1).length) (bv ((takeBlob (numT (numT (numT (numT p))))).1))] := hH
 clear hall hnil
 generalize (takeBlob (numT (numT (numT (numT p))))).1 = y4 at *
 generalize numK (numT (numT (numT p))) = y3 at *
 generalize numK (numT (numT p)) = y2 at *
 generalize numK (numT p) = y1 at *
 generalize numK p = y0 at *
 exact .inr ⟨_, _, hr, rfl, hH.fresh⟩
 refine Sk <| sw_exit <| bkH <| sw_next <| sw_sr <| Go2 2 60 (.agg #[.int .i64 0, .int .i64 0, .int .i64 0, .int .i64 0, .slice none 0 0]) 61 (.agg #[.int .i64 90, .int .i64 0]) <| gl_st (Bx [.int .i64 90, .int .i64 0] rfl hH ?_)
 clear hH; intro b72 w73 hH
 refine Go1 1 63 (.iface 178 (Pp b72 0)) <| gl_st (Ka 0 [.int .i64 0, .int .i64 0, .int .i64 0, .int .i64 0, .slice none 0 0] [.int .i64 0, .int .i64 0, .int .i64 0, .int .i64 0, .slice none 0 0] rfl hH rfl rfl ?_)
 clear hH; intro w74 hH
 refine Go1 1 3 (.iface 178 (Pp b72 0)) <| Dn <| sw_ret <| retC2 rfl (RS.cellA hH 0 (by kernel_rfl) rfl rfl (by kernel_rfl) [.int .i64 0, .int .i64 0, .int .i64 0, .int .i64 0, .slice none 0 0] rfl rfl) (RS.tmp rfl) ?_
 have hnone : readR p = none := by
  rw [readR_one hall, if_pos hk2, if_neg hn4, if_neg hn5, if_neg (fun h => by have := congrArg List.length h; simp only [List.length_drop, List.length_nil] at this; omega)]
 exact .inl ⟨b72, hnone, rfl, (hH.sb (slc (slc (slc (slc (slc (slc (slc (slk sln))))))))).fresh⟩
 exact Bool.noConfusion (hz3t.symm.trans hg3)
 refine Ks 3 (.slice A53 (((takeBlob (numT (numT (numT (numT p))))).1).length) c54) rfl hH rfl rfl ?_
 clear hH; intro w75 hH
 refine Nl (hH.sb (slk (slk (slc (slc (slk (slk (slk sln)))))))) fun hS9 => gdk [(1, Pp b1 0), (2, Pp b3 0), (4, Pp b5 0), (6, ifW z60 213 (.pointer (some ⟨b59, 0, none⟩))), (49, Ni ((takeBlob (numT (numT (numT (numT p))))).2.1))] <| gds 1 (st_q rfl rfl rfl (Lk 2 hH rfl rfl rfl) ?_)
 refine Nl hS9 fun hS9 => ?_
 obtain ⟨A76, hk77, hv78⟩ := hq37.row.cut (by decide) ((takeBlob (numT (numT (numT (numT p))))).2.1) ((numT (numT (numT (numT p)))).length) (by omega) (by omega)
 refine Dq 3 rfl (fun _ hS => (rd_cut (e := 5) (m := 1) (by kernel_rfl) (by kernel_rfl) rfl (.inr ⟨_, _, rfl, rfl⟩) (.inl ⟨rfl, rfl⟩) hk77)) hS9 ?_
 have hr79 := RB.tail hv78
 refine gds 6 (Ks 2 (.slice A76 (((numT (numT (numT (numT p)))).length) - ((takeBlob (numT (numT (numT (numT p))))).2.1)) (c39 - ((takeBlob (numT (numT (numT (numT p))))).2.1))) rfl hH rfl rfl ?_)
 clear hH; intro w80 hH
 refine Nl (hH.sb (slk (slk (slc (slc (slk (slk (slk sln)))))))) fun hS9 => gdn [(1, Pp b1 0), (2, Pp b3 0), (4, Pp b5 0), (6, ifW z60 213 (.pointer (some ⟨b59, 0, none⟩)))] <| bkN <| sw_next <| sw_seq <| sw_sr <| Go1 1 52 (ifW z60 213 (.pointer (some ⟨b59, 0, none⟩))) <| Gq rfl (rd_if_eq (by kernel_rfl) rfl) <| Go1 1 54 (.bool z60) <| Gi 54 rfl (fun hg5 => ?_) (fun hg5 => ?_)
 have hn2 := hz61.1 hg5
 have hn1 := hz46.1 hn2.1
 have hall := hz32.1 hn1.1
 have he4 := hn1.2
 have he5 := hn2.2
 have hn4 : ¬ (takeNum (numT (numT (numT p)))).2.2 ≠ 0 := fun h => h he4
 have hn5 : ¬ (takeBlob (numT (numT (numT (numT p))))).2.2 ≠ 0 := fun h => h he5
 refine Gq rfl (Lk 2 hH rfl rfl rfl) <| Gq rfl (Ln (e := 5) rfl) <| Go1 2 58 (.bool (((((numT (numT (numT (numT p)))).length) - ((takeBlob (numT (numT (numT (numT p))))).2.1) : Nat) : Int) == (0 : Int))) <| Dn <| If rfl (fun hc6 => ?_) (fun hc6 => ?_)
 have hnil : (numT (numT (numT (numT p)))).drop (takeBlob (numT (numT (numT (numT p))))).2.1 = [] := List.eq_nil_of_length_eq_zero (by first | omega | (simp only [List.length_drop] at *; omega))
 refine sw_sr <| Gq rfl (La 3 [Ni (numK p), Ni (numK (numT p)), Ni (numK (numT (numT p))), Ni (numK (numT (numT (numT p)))), .slice A53 (((takeBlob (numT (numT (numT (numT p))))).1).length) c54] hH rfl rfl) <| gl_st (Ka 0 [Ni (numK p), Ni (numK (numT p)), Ni (numK (numT (numT p))), Ni (numK (numT (numT (numT p)))), .slice A53 (((takeBlob (numT (numT (numT (numT p))))).1).length) c54] [Ni (numK p), Ni (numK (numT p)), Ni (numK (numT (numT p))), Ni (numK (numT (numT (numT p)))), .slice A53 (((takeBlob (numT (numT (numT (numT p))))).1).length) c54] rfl hH rfl rfl ?_)
 clear hH; intro w81 hH
 refine Go1 1 3 (.nilIface) <| Dn <| sw_ret <| thR <| bkR <| thR <| retC2 rfl (RS.cellA hH 0 (by kernel_rfl) rfl rfl (by kernel_rfl) [Ni (numK p), Ni (numK (numT p)), Ni (numK (numT (numT p))), Ni (numK (numT (numT (numT p)))), .slice A53 (((takeBlob (numT (numT (numT (numT p))))).1).length) c54] rfl rfl) (RS.tmp rfl) ?_
 have hr : readR p = some ⟨numK p, numK (numT p), numK (numT (numT p)), numK (numT (numT (numT p))), (takeBlob (numT (numT (numT (numT p))))).1⟩ := by rw [readR_one hall, if_pos hk2, if_neg hn4, if_neg hn5, if_pos hnil, hk2]
 replace hH := (hH.sb (slc (slc (slc (slc (slc (slk sln)))))))
 replace hH : Hp w w81 _ _ [.row (.slice A53 (((takeBlob (numT (numT (numT (numT p))))).1).length) c54) 5 1 (((takeBlob (numT (numT (numT (numT p))))).1).length) (bv ((takeBlob (numT (numT (numT (numT p))))).1))] := hH
 clear hall hnil
 generalize (takeBlob (numT (numT (numT (numT p))))).1 = y4 at *
 generalize numK (numT (numT (numT p))) = y3 at *
 generalize numK (numT (numT p)) = y2 at *
 generalize numK (numT p) = y1 at *
 generalize numK p = y0 at *
 exact .inr ⟨_, _, hr, rfl, hH.fresh⟩
 refine Sk <| sw_exit <| bkH <| sw_next <| sw_sr <| Go2 2 60 (.agg #[.int .i64 0, .int .i64 0, .int .i64 0, .int .i64 0, .slice none 0 0]) 61 (.agg #[.int .i64 90, .int .i64 0]) <| gl_st (Bx [.int .i64 90, .int .i64 0] rfl hH ?_)
 clear hH; intro b82 w83 hH
 refine Go1 1 63 (.iface 178 (Pp b82 0)) <| gl_st (Ka 0 [.int .i64 0, .int .i64 0, .int .i64 0, .int .i64 0, .slice none 0 0] [.int .i64 0, .int .i64 0, .int .i64 0, .int .i64 0, .slice none 0 0] rfl hH rfl rfl ?_)
 clear hH; intro w84 hH
 refine Go1 1 3 (.iface 178 (Pp b82 0)) <| Dn <| sw_ret <| retC2 rfl (RS.cellA hH 0 (by kernel_rfl) rfl rfl (by kernel_rfl) [.int .i64 0, .int .i64 0, .int .i64 0, .int .i64 0, .slice none 0 0] rfl rfl) (RS.tmp rfl) ?_
 have hnone : readR p = none := by
  rw [readR_one hall, if_pos hk2, if_neg hn4, if_neg hn5, if_neg (fun h => by have := congrArg List.length h; simp only [List.length_drop, List.length_nil] at this; omega)]
 exact .inl ⟨b82, hnone, rfl, (hH.sb (slc (slc (slc (slc (slc (slc (slc (slk sln))))))))).fresh⟩
 exact Bool.noConfusion (hz3t.symm.trans hg5)
 have hz3f := hc2
 refine sw_skip <| bkN <| sw_next <| sw_seq <| sw_sr <| Go1 1 52 (ifW z60 213 (.pointer (some ⟨b59, 0, none⟩))) <| Gq rfl (rd_if_eq (by kernel_rfl) rfl) <| Go1 1 54 (.bool z60) <| Gi 54 rfl (fun hg7 => ?_) (fun hg7 => ?_)
 exact Bool.noConfusion (hz3f.symm.trans hg7)
 refine Go1 4 58 (.bool false) <| Dn <| Iz <| sw_skip <| sw_next <| sw_exit <| bkH <| sw_next <| sw_sr <| Go2 2 60 (.agg #[.int .i64 0, .int .i64 0, .int .i64 0, .int .i64 0, .slice none 0 0]) 61 (.agg #[.int .i64 90, .int .i64 0]) <| gl_st (Bx [.int .i64 90, .int .i64 0] rfl hH ?_)
 clear hH; intro b85 w86 hH
 refine Go1 1 63 (.iface 178 (Pp b85 0)) <| gl_st (Ka 0 [.int .i64 0, .int .i64 0, .int .i64 0, .int .i64 0, .slice none 0 0] [.int .i64 0, .int .i64 0, .int .i64 0, .int .i64 0, .slice none 0 0] rfl hH rfl rfl ?_)
 clear hH; intro w87 hH
 refine Go1 1 3 (.iface 178 (Pp b85 0)) <| Dn <| sw_ret <| retC2 rfl (RS.cellA hH 0 (by kernel_rfl) rfl rfl (by kernel_rfl) [.int .i64 0, .int .i64 0, .int .i64 0, .int .i64 0, .slice none 0 0] rfl rfl) (RS.tmp rfl) ?_
 have hnone : readR p = none := by
  refine Classical.byContradiction fun hx => ?_
  have hall := Classical.byContradiction fun h9 => hx (readR_bad h9)
  rw [readR_one hall, if_pos hk2] at hx
  by_cases he4 : (takeNum (numT (numT (numT p)))).2.2 = 0
  · have hn4 : ¬ (takeNum (numT (numT (numT p)))).2.2 ≠ 0 := fun h => h he4
    by_cases he5 : (takeBlob (numT (numT (numT (numT p))))).2.2 = 0
    · exact Bool.noConfusion ((hz61.2 ⟨hz46.2 ⟨hz32.2 hall, he4⟩, he5⟩).symm.trans hg7)
    · have hn5 : (takeBlob (numT (numT (numT (numT p))))).2.2 ≠ 0 := he5
      rw [if_neg hn4, if_pos hn5] at hx; exact hx rfl
  · have hn4 : (takeNum (numT (numT (numT p)))).2.2 ≠ 0 := he4
    rw [if_pos hn4] at hx; exact hx rfl
 exact .inl ⟨b85, hnone, rfl, (hH.sb (slc (slc (slc (slc (slc (slc (slc (slk sln))))))))).fresh⟩
 have hk2 : ¬ numK p = 2 := by omega
 refine Sk <| sw_seq <| sw_sr <| Go1 2 26 (.bool (((numK p : Nat) : Int) == (1 : Int))) <| Dn <| If rfl (fun hc9 => ?_) (fun hc9 => ?_)
 refine Sk <| If rfl (fun hc10 => ?_) (fun hc10 => ?_)
 refine sw_exit <| thX <| bkX rfl <| thX <| bkH <| sw_next <| sw_seq <| sw_sr <| Go1 1 52 (ifW z31 213 (.pointer (some ⟨b30, 0, none⟩))) <| Gq rfl (rd_if_eq (by kernel_rfl) rfl) <| Go1 1 54 (.bool z31) <| Gi 54 rfl (fun hg11 => ?_) (fun hg11 => ?_)
 have hall := hz32.1 hg11
 refine Gq rfl (Lk 1 hH rfl rfl rfl) <| Gq rfl (Ln (e := 5) rfl) <| Go1 2 58 (.bool ((((numT (numT (numT p))).length : Nat) : Int) == (0 : Int))) <| Dn <| If rfl (fun hc12 => ?_) (fun hc12 => ?_)
 have hnil : (numT (numT (numT p))) = [] := List.eq_nil_of_length_eq_zero (by first | omega | (simp only [List.length_drop] at *; omega))
 refine sw_sr <| Gq rfl (La 2 [Ni (numK p), Ni (numK (numT p)), Ni (numK (numT (numT p))), .int .i64 0, .slice none 0 0] hH rfl rfl) <| gl_st (Ka 0 [Ni (numK p), Ni (numK (numT p)), Ni (numK (numT (numT p))), .int .i64 0, .slice none 0 0] [Ni (numK p), Ni (numK (numT p)), Ni (numK (numT (numT p))), .int .i64 0, .slice none 0 0] rfl hH rfl rfl ?_)
 clear hH; intro w88 hH
 refine glo 1 [(2, Pp b3 0), (3, .nilIface)] <| Dn <| sw_ret <| thR <| bkR <| thR <| retC2 rfl (RS.cellA hH 0 (by kernel_rfl) rfl rfl (by kernel_rfl) [Ni (numK p), Ni (numK (numT p)), Ni (numK (numT (numT p))), .int .i64 0, .slice none 0 0] rfl rfl) (RS.tmp rfl) ?_
 replace hH := hH.nilRow 5 1
 have hr : readR p = some ⟨numK p, numK (numT p), numK (numT (numT p)), 0, []⟩ := by rw [readR_one hall, if_neg (by omega), if_pos ⟨by omega, hnil⟩]
 replace hH := (hH.sb (slc (slc (slc (slc (slk sln))))))
 replace hH : Hp w w88 _ _ [.row (.slice none 0 0) 5 1 0 []] := hH
 clear hall hnil
 generalize (takeBlob (numT (numT (numT (numT p))))).1 = y4 at *
 generalize numK (numT (numT (numT p))) = y3 at *
 generalize numK (numT (numT p)) = y2 at *
 generalize numK (numT p) = y1 at *
 generalize numK p = y0 at *
 exact .inr ⟨_, _, hr, rfl, hH.fresh⟩
 refine Sk <| sw_exit <| bkH <| sw_next <| sw_sr <| glo 2 [(2, Pp b3 0), (60, .agg #[.int .i64 0, .int .i64 0, .int .i64 0, .int .i64 0, .slice none 0 0]), (61, .agg #[.int .i64 90, .int .i64 0])] <| gl_st (Bx [.int .i64 90, .int .i64 0] rfl hH ?_)
 clear hH; intro b89 w90 hH
 refine Go1 1 63 (.iface 178 (Pp b89 0)) <| gl_st (Ka 0 [.int .i64 0, .int .i64 0, .int .i64 0, .int .i64 0, .slice none 0 0] [.int .i64 0, .int .i64 0, .int .i64 0, .int .i64 0, .slice none 0 0] rfl hH rfl rfl ?_)
 clear hH; intro w91 hH
 refine Go1 1 3 (.iface 178 (Pp b89 0)) <| Dn <| sw_ret <| retC2 rfl (RS.cellA hH 0 (by kernel_rfl) rfl rfl (by kernel_rfl) [.int .i64 0, .int .i64 0, .int .i64 0, .int .i64 0, .slice none 0 0] rfl rfl) (RS.tmp rfl) ?_
 have hnone : readR p = none := by
  rw [readR_one hall, if_neg hk2, if_neg (fun h => by have := congrArg List.length h.2; simp only [List.length_nil] at this; omega)]
 exact .inl ⟨b89, hnone, rfl, (hH.sb (slc (slc (slc (slc (slk sln)))))).fresh⟩
 refine Go1 4 58 (.bool false) <| Dn <| Iz <| sw_skip <| sw_next <| sw_exit <| bkH <| sw_next <| sw_sr <| Go2 2 60 (.agg #[.int .i64 0, .int .i64 0, .int .i64 0, .int .i64 0, .slice none 0 0]) 61 (.agg #[.int .i64 90, .int .i64 0]) <| gl_st (Bx [.int .i64 90, .int .i64 0] rfl hH ?_)
 clear hH; intro b92 w93 hH
 refine glo 1 [(2, Pp b3 0), (60, .agg #[.int .i64 0, .int .i64 0, .int .i64 0, .int .i64 0, .slice none 0 0]), (63, .iface 178 (Pp b92 0))] <| gl_st (Ka 0 [.int .i64 0, .int .i64 0, .int .i64 0, .int .i64 0, .slice none 0 0] [.int .i64 0, .int .i64 0, .int .i64 0, .int .i64 0, .slice none 0 0] rfl hH rfl rfl ?_)
 clear hH; intro w94 hH
 refine Go1 1 3 (.iface 178 (Pp b92 0)) <| Dn <| sw_ret <| retC2 rfl (RS.cellA hH 0 (by kernel_rfl) rfl rfl (by kernel_rfl) [.int .i64 0, .int .i64 0, .int .i64 0, .int .i64 0, .slice none 0 0] rfl rfl) (RS.tmp rfl) ?_
 have hnone : readR p = none := by
  exact readR_bad (fun h9 => Bool.noConfusion ((hz32.2 h9).symm.trans hg11))
 exact .inl ⟨b92, hnone, rfl, (hH.sb (slc (slc (slc (slc (slk sln)))))).fresh⟩
 refine Sk <| sw_exit <| bkX rfl <| thX <| bkX rfl <| thX <| bkH <| sw_next <| sw_sr <| Go2 2 60 (.agg #[.int .i64 0, .int .i64 0, .int .i64 0, .int .i64 0, .slice none 0 0]) 61 (.agg #[.int .i64 90, .int .i64 0]) <| gl_st (Bx [.int .i64 90, .int .i64 0] rfl hH ?_)
 clear hH; intro b95 w96 hH
 refine Go1 1 63 (.iface 178 (Pp b95 0)) <| gl_st (Ka 0 [.int .i64 0, .int .i64 0, .int .i64 0, .int .i64 0, .slice none 0 0] [.int .i64 0, .int .i64 0, .int .i64 0, .int .i64 0, .slice none 0 0] rfl hH rfl rfl ?_)
 clear hH; intro w97 hH
 refine Go1 1 3 (.iface 178 (Pp b95 0)) <| Dn <| sw_ret <| retC2 rfl (RS.cellA hH 0 (by kernel_rfl) rfl rfl (by kernel_rfl) [.int .i64 0, .int .i64 0, .int .i64 0, .int .i64 0, .slice none 0 0] rfl rfl) (RS.tmp rfl) ?_
 have hnone : readR p = none := by
  refine Classical.byContradiction fun hx => ?_
  have hall := Classical.byContradiction fun h9 => hx (readR_bad h9)
  rw [readR_one hall, if_neg hk2, if_neg (by omega)] at hx
  exact hx rfl
 exact .inl ⟨b95, hnone, rfl, (hH.sb (slc (slc (slc (slc (slk sln)))))).fresh⟩
 refine sw_region <| Go1 2 26 (.bool (((numK p : Nat) : Int) == (3 : Int))) <| Dd <| sw_next <| If rfl (fun hc14 => ?_) (fun hc14 => ?_)
 refine sw_exit <| thX <| bkX rfl <| thX <| bkH <| sw_next <| sw_seq <| sw_sr <| Go1 1 52 (ifW z31 213 (.pointer (some ⟨b30, 0, none⟩))) <| Gq rfl (rd_if_eq (by kernel_rfl) rfl) <| Go1 1 54 (.bool z31) <| Gi 54 rfl (fun hg15 => ?_) (fun hg15 => ?_)
 have hall := hz32.1 hg15
 refine Gq rfl (Lk 1 hH rfl rfl rfl) <| Gq rfl (Ln (e := 5) rfl) <| Go1 2 58 (.bool ((((numT (numT (numT p))).length : Nat) : Int) == (0 : Int))) <| Dn <| If rfl (fun hc16 => ?_) (fun hc16 => ?_)
 have hnil : (numT (numT (numT p))) = [] := List.eq_nil_of_length_eq_zero (by first | omega | (simp only [List.length_drop] at *; omega))
 refine sw_sr <| Gq rfl (La 2 [Ni (numK p), Ni (numK (numT p)), Ni (numK (numT (numT p))), .int .i64 0, .slice none 0 0] hH rfl rfl) <| gl_st (Ka 0 [Ni (numK p), Ni (numK (numT p)), Ni (numK (numT (numT p))), .int .i64 0, .slice none 0 0] [Ni (numK p), Ni (numK (numT p)), Ni (numK (numT (numT p))), .int .i64 0, .slice none 0 0] rfl hH rfl rfl ?_)
 clear hH; intro w98 hH
 refine glo 1 [(2, Pp b3 0), (3, .nilIface)] <| Dn <| sw_ret <| thR <| bkR <| thR <| retC2 rfl (RS.cellA hH 0 (by kernel_rfl) rfl rfl (by kernel_rfl) [Ni (numK p), Ni (numK (numT p)), Ni (numK (numT (numT p))), .int .i64 0, .slice none 0 0] rfl rfl) (RS.tmp rfl) ?_
 replace hH := hH.nilRow 5 1
 have hr : readR p = some ⟨numK p, numK (numT p), numK (numT (numT p)), 0, []⟩ := by rw [readR_one hall, if_neg (by omega), if_pos ⟨by omega, hnil⟩]
 replace hH := (hH.sb (slc (slc (slc (slc (slk sln))))))
 replace hH : Hp w w98 _ _ [.row (.slice none 0 0) 5 1 0 []] := hH
 clear hall hnil
 generalize (takeBlob (numT (numT (numT (numT p))))).1 = y4 at *
 generalize numK (numT (numT (numT p))) = y3 at *
 generalize numK (numT (numT p)) = y2 at *
 generalize numK (numT p) = y1 at *
 generalize numK p = y0 at *
 exact .inr ⟨_, _, hr, rfl, hH.fresh⟩
 refine Sk <| sw_exit <| bkH <| sw_next <| sw_sr <| glo 2 [(2, Pp b3 0), (60, .agg #[.int .i64 0, .int .i64 0, .int .i64 0, .int .i64 0, .slice none 0 0]), (61, .agg #[.int .i64 90, .int .i64 0])] <| gl_st (Bx [.int .i64 90, .int .i64 0] rfl hH ?_)
 clear hH; intro b99 w100 hH
 refine Go1 1 63 (.iface 178 (Pp b99 0)) <| gl_st (Ka 0 [.int .i64 0, .int .i64 0, .int .i64 0, .int .i64 0, .slice none 0 0] [.int .i64 0, .int .i64 0, .int .i64 0, .int .i64 0, .slice none 0 0] rfl hH rfl rfl ?_)
 clear hH; intro w101 hH
 refine Go1 1 3 (.iface 178 (Pp b99 0)) <| Dn <| sw_ret <| retC2 rfl (RS.cellA hH 0 (by kernel_rfl) rfl rfl (by kernel_rfl) [.int .i64 0, .int .i64 0, .int .i64 0, .int .i64 0, .slice none 0 0] rfl rfl) (RS.tmp rfl) ?_
 have hnone : readR p = none := by
  rw [readR_one hall, if_neg hk2, if_neg (fun h => by have := congrArg List.length h.2; simp only [List.length_nil] at this; omega)]
 exact .inl ⟨b99, hnone, rfl, (hH.sb (slc (slc (slc (slc (slk sln)))))).fresh⟩
 refine Go1 4 58 (.bool false) <| Dn <| Iz <| sw_skip <| sw_next <| sw_exit <| bkH <| sw_next <| sw_sr <| Go2 2 60 (.agg #[.int .i64 0, .int .i64 0, .int .i64 0, .int .i64 0, .slice none 0 0]) 61 (.agg #[.int .i64 90, .int .i64 0]) <| gl_st (Bx [.int .i64 90, .int .i64 0] rfl hH ?_)
 clear hH; intro b102 w103 hH
 refine glo 1 [(2, Pp b3 0), (60, .agg #[.int .i64 0, .int .i64 0, .int .i64 0, .int .i64 0, .slice none 0 0]), (63, .iface 178 (Pp b102 0))] <| gl_st (Ka 0 [.int .i64 0, .int .i64 0, .int .i64 0, .int .i64 0, .slice none 0 0] [.int .i64 0, .int .i64 0, .int .i64 0, .int .i64 0, .slice none 0 0] rfl hH rfl rfl ?_)
 clear hH; intro w104 hH
 refine Go1 1 3 (.iface 178 (Pp b102 0)) <| Dn <| sw_ret <| retC2 rfl (RS.cellA hH 0 (by kernel_rfl) rfl rfl (by kernel_rfl) [.int .i64 0, .int .i64 0, .int .i64 0, .int .i64 0, .slice none 0 0] rfl rfl) (RS.tmp rfl) ?_
 have hnone : readR p = none := by
  exact readR_bad (fun h9 => Bool.noConfusion ((hz32.2 h9).symm.trans hg15))
 exact .inl ⟨b102, hnone, rfl, (hH.sb (slc (slc (slc (slc (slk sln)))))).fresh⟩
 refine Sk <| sw_exit <| bkX rfl <| thX <| bkX rfl <| thX <| bkH <| sw_next <| sw_sr <| Go2 2 60 (.agg #[.int .i64 0, .int .i64 0, .int .i64 0, .int .i64 0, .slice none 0 0]) 61 (.agg #[.int .i64 90, .int .i64 0]) <| gl_st (Bx [.int .i64 90, .int .i64 0] rfl hH ?_)
 clear hH; intro b105 w106 hH
 refine Go1 1 63 (.iface 178 (Pp b105 0)) <| gl_st (Ka 0 [.int .i64 0, .int .i64 0, .int .i64 0, .int .i64 0, .slice none 0 0] [.int .i64 0, .int .i64 0, .int .i64 0, .int .i64 0, .slice none 0 0] rfl hH rfl rfl ?_)
 clear hH; intro w107 hH
 refine Go1 1 3 (.iface 178 (Pp b105 0)) <| Dn <| sw_ret <| retC2 rfl (RS.cellA hH 0 (by kernel_rfl) rfl rfl (by kernel_rfl) [.int .i64 0, .int .i64 0, .int .i64 0, .int .i64 0, .slice none 0 0] rfl rfl) (RS.tmp rfl) ?_
 have hnone : readR p = none := by
  refine Classical.byContradiction fun hx => ?_
  have hall := Classical.byContradiction fun h9 => hx (readR_bad h9)
  rw [readR_one hall, if_neg hk2, if_neg (by omega)] at hx
  exact hx rfl
 exact .inl ⟨b105, hnone, rfl, (hH.sb (slc (slc (slc (slc (slk sln)))))).fresh⟩
end Go.Proofs.YtajapgjemefoiaaGreatDoor
/- Layer 19 (wal): slices.SortFunc over the parts, by their numbers: what it leaves. -/
set_option linter.unusedVariables false
set_option linter.unusedSimpArgs false
set_option maxRecDepth 100000
namespace Go.Proofs.YtajapgjemefoiaaGreatDoor
open Go Go.RowKit Go.SW Go.Sort
open Go.Lib (compareInt)
abbrev cfP (x y : PV) : Int := compareInt ((x.k : Nat) : Int) ((y.k : Nat) : Int)
theorem ltP (x y : PV) : ltOf cfP x y = decide (x.k < y.k) := by
  unfold ltOf cfP compareInt
  rw [Bool.eq_iff_iff, decide_eq_true_eq, decide_eq_true_eq]
  split
  · omega
  · split <;> omega
theorem swoP : SWO (ltOf cfP) where
  irrefl x := by rw [ltP]; simp
  trans x y z h1 h2 := by rw [ltP] at *; simp at *; omega
  ntrans x y z h1 h2 := by rw [ltP] at *; simp at *; omega
set_option maxHeartbeats 1000000 in
theorem closureP (x y : PV) (W : World) : Calls Tryz.prog 69 #[.agg (pvC x).toArray, .agg (pvC y).toArray] W fun e w' => e = .returned (.int .i64 (cfP x y)) ∧ ∃ q os', w' = grow (W.drewN q) os' := by
  have hcon := fun W' => Tryz.cmp_Compare_int ((x.k : Nat) : Int) ((y.k : Nat) : Int) W'
  unfold cfP
  generalize compareInt ((x.k : Nat) : Int) ((y.k : Nat) : Int) = r at hcon ⊢
  obtain ⟨k1, w1, m1, r1, A1, c1⟩ := x
  obtain ⟨k2, w2, m2, r2, A2, c2⟩ := y
  simp only [pvC, PV.v] at hcon ⊢
  go_enter Tryz.func69, Tryz.ntmps69
  go_wp2_with (go_at_call 70; refine (hcon _).mono ?_; rintro e w' ⟨rfl, rfl⟩)
  go_ret
  exact ⟨rfl, 0, _, by rw [alloc_eq_grow, alloc_eq_grow, grow_grow]; rfl⟩
theorem aggP (w : World) : (isAgg 106).run Tryz.prog w = .ok true w := by kernel_rfl
theorem sizeP4 (w : World) : (Go.sizeOf 106).run Tryz.prog w = .ok 4 w := by kernel_rfl
theorem flat_row (qs : List PV) : (flatK pvC 4 qs.toArray).toList = rowC pvC qs := by
  apply List.ext_getElem?
  intro t
  have hl : (rowC pvC qs).length = qs.length * 4 := rowC_len pvC_len qs
  by_cases ht : t < qs.length * 4
  · have hs : (flatK pvC 4 qs.toArray).size = qs.length * 4 := by simp
    have h1 : (flatK pvC 4 qs.toArray).toList[t]? = some ((flatK pvC 4 qs.toArray)[t]!) := by
      rw [Array.getElem?_toList, Array.getElem?_eq_getElem (by omega), getElem!_pos _ t (by omega)]
    rw [h1, get_flatK _ _ _ _ (by simpa using ht)]
    have hq : t / 4 < qs.length := by omega
    have h2 : qs.toArray[t / 4]! = qs[t / 4] := by rw [getElem!_pos _ _ (by simpa using hq)]; simp
    rw [h2]
    have h3 : (pvC qs[t / 4])[t % 4]? = some (pvC qs[t / 4])[t % 4]! := by
      rw [List.getElem?_eq_getElem (show t % 4 < (pvC qs[t / 4]).length by rw [pvC_len]; omega), getElem!_pos]
    have h4 := rowC_at pvC_len (List.getElem?_eq_getElem hq) (t % 4) (by omega) h3
    rw [show t / 4 * 4 + t % 4 = t by omega] at h4
    exact h4.symm
  · rw [List.getElem?_eq_none (by simp; omega), List.getElem?_eq_none (by omega)]
theorem put_take {b c : Array Value} {n : Nat} (hc : n ≤ c.size) (hb : b.size = n) : ((putCells id 0 b c).toList.take n) = b.toList := by
  apply List.ext_getElem?
  intro t
  rw [List.getElem?_take]
  by_cases ht : t < n
  · rw [if_pos ht]
    have h1 : t < c.size := by omega
    unfold putCells
    rw [Array.getElem?_toList, Array.getElem?_mapIdx, Array.getElem?_eq_getElem h1, Array.getElem?_toList, Array.getElem?_eq_getElem (by omega)]
    simp only [Option.map_some, Nat.zero_le, true_and, Nat.zero_add, Nat.sub_zero, id]
    rw [if_pos (by omega), getElem!_pos _ t (by omega)]
  · rw [if_neg ht, List.getElem?_eq_none (by simp; omega)]
set_option maxHeartbeats 1000000 in
theorem PartsSort_ct (v : Value) (qs : List PV) (w : World) (hM : Mine w [.row v 106 4 qs.length (rowC pvC qs)]) (hl : qs.length ≤ 1000000) :
    Fun Tryz.prog 68 [v, .func (.func 69) #[] #[]] w fun r w' => ∃ ds, r = .tuple #[] ∧ (ds.Perm qs ∧ ds.Pairwise fun a b => a.k ≤ b.k) ∧ Turn w w' [.row v 106 4 qs.length (rowC pvC qs)] [.row v 106 4 ds.length (rowC pvC ds)] := by
  have hr : w.ownsRow 0 106 4 v qs.length (rowC pvC qs) := hM.1 _ (List.mem_singleton.2 rfl)
  rcases hr.2 with ⟨rfl, h0⟩ | ⟨g, cap, cur, rfl, hb, hg, hn, hm, hs, ht⟩
  · obtain rfl := List.length_eq_zero_iff.1 h0
    refine Calls.mono (AnyF.slices_SortFunc_none ({ Tryz.sortPart with } : SlLaysF0.n6 Tryz.prog Tryz.sortPart_ren) none 0 (.func (.func 69) #[] #[]) w) ?_
    rintro e w' ⟨rfl, rfl⟩
    exact ⟨_, rfl, [], rfl, ⟨List.Perm.refl _, List.Pairwise.nil⟩, (Hp.start_mine hM).turned⟩
  have hlen := hr.1
  have hsz : (flatK pvC 4 qs.toArray).size = qs.length * 4 := by simp
  have hH0 : HoldsK pvC 4 w g 0 qs.toArray := by
    intro j hj
    rw [hsz] at hj
    have hc : w.heap[(⟨g, 0 + j, none⟩ : Addr).block]? = some (.cells cur 106 (0, 0)) := hg
    refine ⟨?_, ?_⟩
    · have h1 : cur.toList[j]? = (rowC pvC qs)[j]? := by rw [← ht, List.getElem?_take, if_pos hj]
      unfold World.cell?
      rw [hc]
      simp only [Option.isSome_none, Bool.false_eq_true, if_false, Nat.zero_add]
      rw [← Array.getElem?_toList, h1, ← flat_row, Array.getElem?_toList, Array.getElem?_eq_getElem (by omega), id, getElem!_pos _ j (by omega)]
    · unfold World.frozen?
      rw [hc]
      simp
  have hblk : g < w.heap.size := (Array.getElem?_eq_some_iff.1 hg).1
  have eg : ∀ args w, (callFunc 69 args).run Tryz.prog w = .ok (.enter 69 args) w := enters_of Tryz.func69 (by kernel_rfl) rfl
  have hcon := AnyQ.slices_SortFunc Tryz.sortPart 4 aggP sizeP4 pvC (fun _ => rfl) (fun x v hv => by simp [pvC] at hv; rcases hv with rfl | rfl | rfl | rfl <;> rfl) cfP swoP 69 #[] g 0 cap qs.toArray w eg (fun _ _ _ _ x y => closureP x y _) hH0 hblk (by simp; omega)
  rw [show qs.toArray.size = qs.length from by simp] at hcon
  refine Calls.mono hcon ?_
  rintro e w' ⟨rfl, d', n, os, ⟨hp1, _, hp2⟩, hsd, rfl⟩
  have hsize : d'.size = qs.length := by rw [hp1]; simp
  have hdl : d'.toList.length = qs.length := by simp [hsize]
  have he : (d'.extract 0 qs.length).toList = d'.toList := by rw [← hsize]; simp
  have he2 : (qs.toArray.extract 0 qs.length).toList = qs := by simp
  rw [he, he2] at hp2
  refine ⟨_, rfl, d'.toList, rfl, ⟨hp2, ?_⟩, ?_⟩
  · rw [List.pairwise_iff_getElem]
    intro i j hi hj hij
    have h1 := hsd i j (Nat.zero_le _) hij (by omega)
    rw [ltP, getElem!_pos _ i (by omega), getElem!_pos _ j (by omega)] at h1
    simpa using h1
  · have hfl : (flatK pvC 4 d').size = d'.size * 4 := by simp
    have hrow := flat_row d'.toList
    rw [Array.toArray_toList] at hrow
    have hheap : (sortWorldK pvC 4 w g 0 n d' os).heap = (w.heap.modify g (onCells (putCells id 0 (flatK pvC 4 d')))) ++ os := rfl
    have hg2 : (sortWorldK pvC 4 w g 0 n d' os).heap[g]? = some (.cells (putCells id 0 (flatK pvC 4 d') cur) 106 (0, 0)) := by
      rw [hheap, Array.getElem?_append_left (by simpa using hblk), Array.getElem?_modify, if_pos rfl, hg]; rfl
    have h0 : Hp w w (off w (blksOf [.row (.slice (some ⟨g, 0, none⟩) qs.length cap) 106 4 qs.length (rowC pvC qs)])) (blksOf [.row (.slice (some ⟨g, 0, none⟩) qs.length cap) 106 4 qs.length (rowC pvC qs)]) [.row (.slice (some ⟨g, 0, none⟩) qs.length cap) 106 4 qs.length (rowC pvC qs)] := Hp.start_mine hM
    refine (h0.turn (w' := sortWorldK pvC 4 w g 0 n d' os) 0 (o' := .row (.slice (some ⟨g, 0, none⟩) qs.length cap) 106 4 d'.toList.length (rowC pvC d'.toList)) rfl (some g) (fun x e => by cases e; simp [Own.row, Value.ownBlock]) ⟨rfl, rfl, rfl, ?_, fun k hk hne => ?_⟩ ?_ (fun x hx => .inl hx) (by simp [Own.row, Value.ownBlock])).turned
    · rw [hheap]; simp
    · rw [hheap, Array.getElem?_append_left (by simpa using hk), Array.getElem?_modify, if_neg (fun e => hne (by rw [e]))]
    · refine ⟨by rw [rowC_len pvC_len], .inr ⟨g, cap, _, by rw [hdl], hb, hg2, by omega, hm, by rw [← hs]; simp [putCells], ?_⟩⟩
      rw [hdl, ← hrow]
      exact put_take (by omega) (by omega)
end Go.Proofs.YtajapgjemefoiaaGreatDoor
/- Layer 19 (wal): a file's name; ContainsFunc over entries: what they answer. -/
set_option maxRecDepth 100000
set_option maxHeartbeats 1000000
set_option linter.unusedVariables false
set_option linter.unusedSimpArgs false
namespace Go.Proofs.YtajapgjemefoiaaGreatDoor
open Go.RowKit Go.SW
def TabW (w : World) : Prop := Lib.TabIs Tryz.prog w "internal/strconv.uint64pow10" .u64 Lib.pow10Tab
theorem tabP : Tryz.prog.globalNamed "internal/strconv.uint64pow10" = some 1 := by kernel_rfl
def KOk (w : World) (F : List Nat) (k : Nat) : Prop := k < 100 ∨ (TabW w ∧ 1 ∉ F ∧ 1 < w.heap.size)
theorem tab_keep {w w' : World} (h : TabW w) (e : w'.heap[1]? = w.heap[1]?) : TabW w' := by
  unfold TabW Lib.TabIs World.var? at *
  rw [tabP] at *
  simp only [Option.bind_some] at *
  rw [e]; exact h
theorem KOk.sub {w0 w : World} {z : Zone} {F : List Nat} {mine os : List Own} {k : Nat} (h : KOk w0 F k) (hH : Hp w0 w z F (mine ++ os)) : KOk w (blksOf mine) k := by
  rcases h with h | ⟨h1, h2, h3⟩
  · exact .inl h
  · refine .inr ⟨tab_keep h1 (hH.keep 1 h3 h2), fun hm => ?_, Nat.lt_of_lt_of_le h3 hH.size⟩
    rcases (hH.new 1 (by rw [blksOf_append]; exact List.mem_append_left _ hm)).1 with h4 | h4
    · omega
    · exact h2 h4
theorem KOk.now {w0 w : World} {z : Zone} {F : List Nat} {os : List Own} {k : Nat} (h : KOk w0 F k) (hH : Hp w0 w z F os) : k < 100 ∨ TabW w := by
  rcases h with h | ⟨h1, h2, h3⟩
  · exact .inl h
  · exact .inr (tab_keep h1 (hH.keep 1 h3 h2))
theorem fresh_grow (w : World) (k : Nat) (os : Array Obj) : Fresh w (Go.Sort.grow (w.drewN k) os) [] :=
  ⟨rfl, rfl, rfl, by simp [Go.Sort.grow, World.drewN], fun j hj _ => by
    show ((w.drewN k).heap ++ os)[j]? = _
    rw [Array.getElem?_append_left (by simpa using hj)]; rfl, fun a v h => by simp at h, by simp, by simp [blksOf], by simp [blksOf]⟩
theorem Itoa_ct (k : Nat) (w : World) (hk : k < 9223372036854775808) (hT : k < 100 ∨ TabW w) :
    Fun Tryz.prog 77 [.int .i64 ((k : Nat) : Int)] w fun v w' => v = .string (bs (decB k)) ∧ Fresh w w' [] := by
  rcases hT with h | h
  · refine Calls.mono (Tryz.strconv_Itoa_small k h w) ?_
    rintro e w' ⟨rfl, rfl⟩
    exact ⟨_, rfl, rfl, (Hp.start _).fresh⟩
  · refine Calls.mono (Tryz.strconv_Itoa ((k : Nat) : Int) (by omega) (by omega) w h) ?_
    rintro e w' ⟨rfl, n, os, rfl⟩
    exact ⟨_, rfl, by rw [Lib.itoa_nonneg]; rfl, fresh_grow w n os⟩

theorem Name_ct (k : Nat) (w : World) (hk : k < 9223372036854775808) (hT : k < 100 ∨ TabW w) :
    Fun Tryz.prog 45 [.int .i64 ((k : Nat) : Int)] w fun v w' => v = .string (bs (nameF k)) ∧ Fresh w w' [] := by
 have hdl : (decB k).length ≤ 21 := by
   rw [show (decB k).length = Lib.nDigits k from Lib.decDigits_length k]
   exact nDig_le 20 k (by omega)
 refine fun_of_sw Tryz.func45 rfl 6 rfl rfl ?_
 have hH := Hp.start w
 refine sw_sr <| Go0 1 <| Dn <| sw_sr <| Go1 1 3 (Ni k) <| gl_st (Sc rfl rfl (Itoa_ct k _ hk hT) ?_)
 rintro _ w1 ⟨rfl, hF2⟩
 replace hH := hH.call hF2
 refine Gq rfl (rd_sadd (by kernel_rfl) rfl rfl (by simp only [List.length_cons, List.length_nil]; omega)) <| Go1 1 2 (.string (bs ([108, 111, 103] ++ (decB k)))) <| Dn <| Rt1 rfl rfl ?_
 exact ⟨rfl, hH.fresh⟩
theorem Long1_ct (ix tm kd : Int) (A : Option Addr) (n c : Nat) (w : World) :
    Fun Tryz.prog 50 [.agg #[.int .i64 ix, .int .i64 tm, .int .i64 kd, .slice A n c]] w fun v w' => v = .bool (decide (65536 < n)) ∧ Fresh w w' [] := by
 refine fun_of_sw Tryz.func50 rfl 7 rfl rfl ?_
 have hH := Hp.start w
 refine sw_sr <| gl_st (Bx [.int .i64 ix, .int .i64 tm, .int .i64 kd, .slice A n c] rfl hH ?_)
 clear hH; intro b1 w2 hH
 refine Go0 1 <| Dn <| sw_sr <| Go1 1 3 (Pp b1 3) <| Gq rfl (Lk 0 hH rfl rfl rfl) <| Gq rfl (Ln (e := 5) rfl) <| Go1 2 2 (.bool (decide ((n : Int) > (65536 : Int)))) <| Dn <| Rt1 rfl rfl ?_
 exact ⟨by congr 1; rw [Bool.eq_iff_iff, decide_eq_true_eq, decide_eq_true_eq]; omega, (hH.sb sln).fresh⟩
theorem any_no {qs : EI} (h : ∀ j : Nat, j < qs.length → ∀ q, qs[j]? = some q → ¬ 65536 < q.1.d.length) : (qs.map (·.1)).any (fun e => decide (65536 < e.d.length)) = false := by
  rw [List.any_eq_false]
  intro e he
  obtain ⟨q, hq, rfl⟩ := List.mem_map.1 he
  obtain ⟨j, hj⟩ := List.getElem?_of_mem hq
  simpa using h j (List.getElem?_eq_some_iff.1 hj).1 q hj
theorem any_yes {qs : EI} {j : Nat} {q : EA × Value} (hq : qs[j]? = some q) (h : 65536 < q.1.d.length) : (qs.map (·.1)).any (fun e => decide (65536 < e.d.length)) = true :=
  List.any_eq_true.2 ⟨q.1, List.mem_map.2 ⟨q, List.mem_of_getElem? hq, rfl⟩, decide_eq_true h⟩

theorem Index_ct (vx : Value) (qs : EI) (w : World) (hE : Row w.cell? vx 4 qs.length (rowC eiC qs)) (hD : ∀ q ∈ qs, RB w.cell? q.2 q.1.d) (hl : qs.length ≤ 1048576) :
    Fun Tryz.prog 81 [vx, .func (.func 50) #[] #[]] w fun v w' => ∃ x : Int, v = .int .i64 x ∧ ((0 ≤ x ∧ (qs.map (·.1)).any (fun e => decide (65536 < e.d.length)) = true) ∨ (x < 0 ∧ (qs.map (·.1)).any (fun e => decide (65536 < e.d.length)) = false)) ∧ Fresh w w' [] := by
 obtain ⟨Ax, cx, rfl, hx1, hx2⟩ := hE.form
 refine fun_of_sw Tryz.func81 rfl 19 rfl rfl ?_
 have hH := Hp.start w
 refine sw_sr <| Go0 1 <| Dn <| sw_seq <| sw_sr <| Go1 1 6 (.slice Ax qs.length cx) <| Gq rfl (Ln (e := 64) rfl) <| Go1 1 8 (.int .i64 0) <| Dn <| sw_block <| Lp (γ := Nat) hH (fun i => [(0, .slice Ax qs.length cx), (1, .func (.func 50) #[] #[]), (7, Ni qs.length), (8, Ni i)]) (fun i w_ H_ => (i ≤ qs.length) ∧ (∀ j : Nat, j < i → ∀ q, qs[j]? = some q → ¬ 65536 < q.1.d.length) ∧ H_ []) (fun i => qs.length - i) (0) ?_ ?_
 · exact ⟨by omega, fun j hj => absurd hj (by omega), hH⟩
 clear hH
 rintro i w1 ⟨hi, hall, hH⟩
 refine swk [(0, .slice Ax qs.length cx), (1, .func (.func 50) #[] #[]), (7, Ni qs.length), (8, Ni i)] <| sw_sr <| Go1 1 9 (.bool (decide ((i : Int) < ((qs.length : Nat) : Int)))) <| Dn <| sw_seq <| If rfl (fun hc1 => ?_) (fun hc1 => ?_)
 refine Sk <| sw_seq <| sw_block <| sw_sr <| Go1 2 5 (Ni i) <| Dn ?_
 obtain ⟨⟨⟨ix, tm, kd, dq⟩, vq⟩, hq⟩ : ∃ x, qs[i]? = some x := ⟨_, List.getElem?_eq_getElem (by omega)⟩
 have kq : RB w.cell? vq dq := hD _ (List.mem_of_getElem? hq)
 obtain ⟨Ad, cd, rfl, _, _⟩ := kq.row.form
 refine sw_sr ?_
 obtain ⟨p2, hi4, hp3⟩ := hE.idx i (by omega) (by decide)
 refine Go3 3 11 (.func (.func 50) #[] #[]) 12 (.slice Ax qs.length cx) 13 (Ni i) <| Gq rfl (Ix (e := 64) 4 rfl rfl hi4) <| Gq rfl (rd_loadZA (by kernel_rfl) hH hp3 rfl 0 rfl [.int .i64 ix, .int .i64 tm, .int .i64 kd, .slice Ad dq.length cd] (by kernel_rfl) (rowC_all eiC_len hq 0 _ rfl)) <| gl_st (st_callv rfl rfl rfl (by kernel_rfl) rfl rfl (Long1_ct ix tm kd Ad dq.length cd _) ?_)
 rintro _ w5 ⟨rfl, hF6⟩
 replace hH := hH.call hF6
 refine Dn <| If rfl (fun hc2 => ?_) (fun hc2 => ?_)
 have hyes := hc2
 refine sw_sr <| Go1 2 4 (Ni i) <| Dn <| Rt1 rfl rfl ?_
 exact ⟨_, rfl, .inl ⟨by omega, any_yes hq (by simp only; omega)⟩, (hH.sb sln).fresh⟩
 have hno : ¬ 65536 < dq.length := by omega
 refine sw_skip <| bkN <| sw_next <| sw_region <| Gw0 1 18 ((i : Int) + 1) ((i + 1 : Nat) : Int) <| Go1 1 8 (Ni (i + 1)) <| Dd <| rnd_end (g := (i)) (i + 1) (by kernel_rfl) ?_ ?_
 replace hH : Hp w w5 _ _ [] := (hH.sb sln)
 · exact ⟨by omega, fun j hj q h9 => (Nat.lt_succ_iff_lt_or_eq.1 hj).elim (fun h => hall j h q h9) (fun h => by subst h; rw [hq] at h9; cases h9; exact hno), hH⟩
 · show qs.length - (i + 1) < qs.length - i; omega
 refine sw_exit <| thX <| thX <| bkH <| sw_next <| sw_sr <| Go1 1 4 (.int .i64 (-1)) <| Dn <| Rt1 rfl rfl ?_
 exact ⟨_, rfl, .inr ⟨by omega, any_no (fun j hj => hall j (by omega))⟩, (hH.sb sln).fresh⟩
theorem Contains_ct (vx : Value) (qs : EI) (w : World) (hE : Row w.cell? vx 4 qs.length (rowC eiC qs)) (hD : ∀ q ∈ qs, RB w.cell? q.2 q.1.d) (hl : qs.length ≤ 1048576) :
    Fun Tryz.prog 49 [vx, .func (.func 50) #[] #[]] w fun v w' => v = .bool ((qs.map (·.1)).any (fun e => decide (65536 < e.d.length))) ∧ Fresh w w' [] := by
 obtain ⟨Ax, cx, rfl, hx1, hx2⟩ := hE.form
 refine fun_of_sw Tryz.func49 rfl 9 rfl rfl ?_
 have hH := Hp.start w
 refine sw_sr <| Go0 1 <| Dn <| sw_sr <| Go2 2 5 (.slice Ax qs.length cx) 6 (.func (.func 50) #[] #[]) <| gl_st (Sc rfl rfl (Index_ct _ qs _ (hE.mono hH.zin) (fun q hq => (hD q hq).mono hH.zin) hl) ?_)
 rintro _ w1 ⟨x, rfl, hx, hF2⟩
 replace hH := hH.call hF2
 refine Go1 2 4 (.bool (decide ((x : Int) ≥ (0 : Int)))) <| Dn <| Rt1 rfl rfl ?_
 rcases hx with ⟨h1, h2⟩ | ⟨h1, h2⟩
 · exact ⟨by rw [h2]; congr 1; rw [decide_eq_true_eq]; omega, hH.fresh⟩
 · exact ⟨by rw [h2]; congr 1; rw [decide_eq_false_iff_not]; omega, hH.fresh⟩
end Go.Proofs.YtajapgjemefoiaaGreatDoor
/- Layer 19 (wal): a log in memory: what it owns; an entry is put behind the others, what is said of the pool. Plain theorems over the walks. -/
set_option maxRecDepth 100000
set_option linter.unusedVariables false
namespace Go.Proofs.YtajapgjemefoiaaGreatDoor
open Go.RowKit Go.SW
abbrev lgO (g db : Nat) (c : Cn) (ve : Value) (fi lo : Int) (bad : Value) : Own := .blk g 96 [.pointer (some ⟨db, 0, none⟩), .int .i64 ((c.term : Nat) : Int), .int .i64 ((c.vote : Nat) : Int), .int .i64 ((c.ix : Nat) : Int), .int .i64 ((c.ah : Nat) : Int), ve, .int .i64 fi, .int .i64 lo, bad]
abbrev cnO (g : Nat) (te vo : Int) (c : Cn) (ve : Value) : Own := .blk g 94 [.int .i64 te, .int .i64 vo, .int .i64 ((c.ix : Nat) : Int), .int .i64 ((c.ah : Nat) : Int), ve]
/-- The entries of a content, as they lie in the pool. -/
structure CnR (pl : Pl) (c : Cn) (es : EQ) (ve : Value) : Prop where
  fst : es.map (·.1) = c.es
  row : Row (pz pl) ve 4 es.length (rowC enC es)
  ok : ∀ q ∈ es, EnOk (pz pl) q ∧ q.1.d.length ≤ 1048576
theorem CnR.mono {pl p2 : Pl} {c : Cn} {es : EQ} {ve : Value} (h : CnR pl c es ve) (hl : (pz pl).le (pz p2)) : CnR p2 c es ve :=
  ⟨h.fst, h.row.mono hl, fun q hq => ⟨⟨(h.ok q hq).1.d.mono hl, (h.ok q hq).1.ix, (h.ok q hq).1.tm, (h.ok q hq).1.kd⟩, (h.ok q hq).2⟩⟩
theorem CnR.len {pl : Pl} {c : Cn} {es : EQ} {ve : Value} (h : CnR pl c es ve) : es.length = c.es.length := by rw [← h.fst, List.length_map]
theorem CnR.env {pl : Pl} {c : Cn} {es : EQ} {ve : Value} (h : CnR pl c es ve) : EnV es := fun q hq => by
  obtain ⟨A, cap, e, _⟩ := (h.ok q hq).1.d.row.form
  exact ⟨A, _, cap, e⟩
theorem CnR.nil (pl : Pl) (c : Cn) (h : c.es = []) : CnR pl c [] (.slice none 0 0) := ⟨h.symm, Row.nil _ _, fun q hq => by cases hq⟩
theorem cnR_put {pl p2 : Pl} {c c2 : Cn} {es : EQ} {ve v2 vd2 : Value} {e : En} (h : CnR pl c es ve) (hl : (pz pl).le (pz p2)) (hp : putC c e = some c2) (hr : Row (pz p2) v2 4 (es.take (e.ix - c.ix - 1) ++ [(e, vd2)]).length (rowC enC (es.take (e.ix - c.ix - 1) ++ [(e, vd2)]))) (hd : RB (pz p2) vd2 e.d) (hdl : e.d.length ≤ 1048576)
    (h1 : e.ix < 9223372036854775808) (h2 : e.tm < 9223372036854775808) (h3 : e.kd < 9223372036854775808) : CnR p2 c2 (es.take (e.ix - c.ix - 1) ++ [(e, vd2)]) v2 := by
  unfold putC at hp
  split at hp
  · cases hp
  cases hp
  refine ⟨?_, hr, fun q hq => ?_⟩
  · rw [List.map_append, List.map_take, h.fst]; rfl
  · rcases List.mem_append.1 hq with hq | hq
    · exact (h.mono hl).ok q (List.mem_of_mem_take hq)
    · rw [List.mem_singleton.1 hq]
      exact ⟨⟨hd, h1, h2, h3⟩, hdl⟩
theorem put_pool {w w' : World} {B B' : Own} {pl : Pl} {v1 vd2 : Value} {e1 e2 : TypeId} {n : Nat} {xs : List Value} {d : List UInt8} (hM : Mine w [B, plO pl]) (ht : Turn w w' [B] [B', .row v1 e1 4 n xs, .row vd2 e2 1 d.length (bv d)]) :
    ∃ p2, (pz pl).le (pz p2) ∧ Row (pz p2) v1 4 n xs ∧ RB (pz p2) vd2 d ∧ Turn w w' [B, plO pl] [B', plO p2] := by
  have h0 : Hp w w (off w (blksOf [B, plO pl])) (blksOf [B, plO pl]) ([B] ++ [plO pl]) := Hp.start_mine hM
  have h1 := h0.turns ht
  have h2 : Hp w w' (off w (blksOf [B, plO pl])) (blksOf [B, plO pl]) [.row v1 e1 4 n xs, plO pl, B', .row vd2 e2 1 d.length (bv d)] := h1.pick [2, 0, 1, 3] (by kernel_rfl) rfl
  obtain ⟨q1, hr1, h3⟩ := pl_add h2
  have h4 : Hp w w' (off w (blksOf [B, plO pl])) (blksOf [B, plO pl]) [.row vd2 e2 1 d.length (bv d), plO (pl ++ q1), B'] := h3.pick [2, 0, 1] (by kernel_rfl) rfl
  obtain ⟨q2, hr2, h5⟩ := pl_add h4
  have h6 : Hp w w' (off w (blksOf [B, plO pl])) (blksOf [B, plO pl]) [B', plO (pl ++ q1 ++ q2)] := h5.pick [1, 0] (by kernel_rfl) rfl
  exact ⟨_, (pz_app pl q1).trans (pz_app _ q2), hr1.mono (pz_app _ q2), hr2, h6.turned⟩
theorem mine_head {w : World} {B : Own} {r : List Own} (h : Mine w (B :: r)) : Mine w [B] :=
  ⟨fun o ho => h.1 o (by rw [List.mem_singleton.1 ho]; exact List.mem_cons_self), h.2.sublist (blksOf_sublist (by simp))⟩
theorem off_mono (w : World) (a b : List Nat) (h : ∀ g ∈ a, g ∈ b) : (off w b).le (off w a) := by
  intro ad v hv
  unfold off at hv ⊢
  split at hv
  · cases hv
  · rename_i hn
    rw [if_neg (fun h2 => hn (h _ h2))]; exact hv
theorem off_head (w : World) (B : Own) (r : List Own) : (off w (blksOf (B :: r))).le (off w (blksOf [B])) := off_mono w _ _ fun g hg => by
  rw [blksOf_cons] at hg ⊢
  exact List.mem_append_left _ (by simpa [blksOf] using hg)
theorem pz_off1 {w : World} {B : Own} {pl : Pl} (h : Mine w [B, plO pl]) : (pz pl).le (off w (blksOf [B])) := by
  have h0 : Hp w w (off w (blksOf [B, plO pl])) (blksOf [B, plO pl]) ([B] ++ [plO pl]) := Hp.start_mine h
  exact pz_off h0 0 rfl
theorem keep_pool {w w' : World} {B B' : Own} {pl : Pl} (hM : Mine w [B, plO pl]) (ht : Turn w w' [B] [B']) : Turn w w' [B, plO pl] [B', plO pl] := by
  have h0 : Hp w w (off w (blksOf [B, plO pl])) (blksOf [B, plO pl]) ([B] ++ [plO pl]) := Hp.start_mine hM
  have h2 : Hp w w' (off w (blksOf [B, plO pl])) (blksOf [B, plO pl]) [B', plO pl] := (h0.turns ht).pick [1, 0] (by kernel_rfl) rfl
  exact h2.turned
def PutPost (B : Own) (B' : Value → Own) (c : Cn) (pl : Pl) (e : En) (w : World) (v : Value) (w' : World) : Prop :=
  (putC c e = none ∧ v = .bool false ∧ Turn w w' [B, plO pl] [B, plO pl]) ∨
    ∃ c2 es2 ve2 pl2, putC c e = some c2 ∧ v = .bool true ∧ CnR pl2 c2 es2 ve2 ∧ (pz pl).le (pz pl2) ∧ Turn w w' [B, plO pl] [B' ve2, plO pl2]
theorem PutP1_ct (g db : Nat) (c : Cn) (fi lo : Int) (bad ve vd : Value) (es : EQ) (e : En) (pl : Pl) (w : World) (hM : Mine w [lgO g db c ve fi lo bad, plO pl]) (hL : CnR pl c es ve) (hd : RB (off w (blksOf [lgO g db c ve fi lo bad, plO pl])) vd e.d)
    (hl : es.length ≤ 1000000) (hcx : c.ix + es.length < 9223372036854775808) (h1 : e.ix < 9223372036854775808) (h2 : e.tm < 9223372036854775808) (h3 : e.kd < 9223372036854775808) (hdl : e.d.length ≤ 1048576) :
    Fun Tryz.prog 48 [.pointer (some ⟨g, 1, none⟩), .agg #[.int .i64 ((e.ix : Nat) : Int), .int .i64 ((e.tm : Nat) : Int), .int .i64 ((e.kd : Nat) : Int), vd]] w fun v w' => PutPost (lgO g db c ve fi lo bad) (fun v2 => lgO g db c v2 fi lo bad) c pl e w v w' := by
  obtain ⟨ix, tm, kd, d⟩ := e
  simp only at hd h1 h2 h3 hdl ⊢
  refine (Put1_ct g c.ix ix tm kd c.term c.vote c.ah db fi lo bad ve vd es d w (mine_head hM) (hL.row.mono (pz_off1 hM)) hL.env (hd.mono (off_head _ _ _)) hl h1 hcx hdl).mono ?_
  have hlen := hL.len
  rintro v w' (⟨rfl, hn, ht⟩ | ⟨v1, vd2, rfl, hn, ht⟩)
  · refine .inl ⟨?_, rfl, keep_pool hM ht⟩
    unfold putC
    rw [if_pos (by simp only; omega)]
  · obtain ⟨p2, hle, hr, hd2, ht2⟩ := put_pool hM ht
    have hp : putC c ⟨ix, tm, kd, d⟩ = some { c with es := c.es.take (ix - c.ix - 1) ++ [⟨ix, tm, kd, d⟩] } := by
      unfold putC
      rw [if_neg (by simp only; omega)]
    exact .inr ⟨_, _, v1, p2, hp, rfl, cnR_put hL hle hp hr hd2 hdl h1 h2 h3, hle, ht2⟩
theorem PutP0_ct (g : Nat) (te vo : Int) (c : Cn) (ve vd : Value) (es : EQ) (e : En) (pl : Pl) (w : World) (hM : Mine w [cnO g te vo c ve, plO pl]) (hL : CnR pl c es ve) (hd : RB (off w (blksOf [cnO g te vo c ve, plO pl])) vd e.d)
    (hl : es.length ≤ 1000000) (hcx : c.ix + es.length < 9223372036854775808) (h1 : e.ix < 9223372036854775808) (h2 : e.tm < 9223372036854775808) (h3 : e.kd < 9223372036854775808) (hdl : e.d.length ≤ 1048576) :
    Fun Tryz.prog 48 [.pointer (some ⟨g, 0, none⟩), .agg #[.int .i64 ((e.ix : Nat) : Int), .int .i64 ((e.tm : Nat) : Int), .int .i64 ((e.kd : Nat) : Int), vd]] w fun v w' => PutPost (cnO g te vo c ve) (fun v2 => cnO g te vo c v2) c pl e w v w' := by
  obtain ⟨ix, tm, kd, d⟩ := e
  simp only at hd h1 h2 h3 hdl ⊢
  refine (Put0_ct g c.ix ix tm kd te vo c.ah ve vd es d w (mine_head hM) (hL.row.mono (pz_off1 hM)) hL.env (hd.mono (off_head _ _ _)) hl h1 hcx hdl).mono ?_
  have hlen := hL.len
  rintro v w' (⟨rfl, hn, ht⟩ | ⟨v1, vd2, rfl, hn, ht⟩)
  · refine .inl ⟨?_, rfl, keep_pool hM ht⟩
    unfold putC
    rw [if_pos (by simp only; omega)]
  · obtain ⟨p2, hle, hr, hd2, ht2⟩ := put_pool hM ht
    have hp : putC c ⟨ix, tm, kd, d⟩ = some { c with es := c.es.take (ix - c.ix - 1) ++ [⟨ix, tm, kd, d⟩] } := by
      unfold putC
      rw [if_neg (by simp only; omega)]
    exact .inr ⟨_, _, v1, p2, hp, rfl, cnR_put hL hle hp hr hd2 hdl h1 h2 h3, hle, ht2⟩
end Go.Proofs.YtajapgjemefoiaaGreatDoor
/- Layer 19 (wal): a record is done; a put of an entry that has no place at all: what they answer. -/
set_option maxRecDepth 100000
set_option maxHeartbeats 1000000
set_option linter.unusedVariables false
set_option linter.unusedSimpArgs false
namespace Go.Proofs.YtajapgjemefoiaaGreatDoor
open Go.RowKit Go.SW
def DoPost (g db : Nat) (c : Cn) (ve : Value) (fi lo : Int) (bad : Value) (pl : Pl) (r : Rc) (first : Bool) (w : World) (v : Value) (w' : World) : Prop :=
  ∃ bb o2, v = .bool bb ∧ ((doC c r first = none ∧ bb = false) ∨ (∃ c2 es2 ve2 pl2, doC c r first = some c2 ∧ bb = true ∧ CnR pl2 c2 es2 ve2 ∧ o2 = [lgO g db c2 ve2 fi lo bad, plO pl2])) ∧ Turn w w' [lgO g db c ve fi lo bad, plO pl] [.grp o2]
theorem do_one {g db : Nat} {c : Cn} {ve : Value} {fi lo : Int} {bad : Value} {pl : Pl} {k a b cc : Nat} {d : List UInt8} {first : Bool} {w w' : World} {v : Value} (hk : k = 2) (h : PutPost (lgO g db c ve fi lo bad) (fun v2 => lgO g db c v2 fi lo bad) c pl ⟨a, b, cc, d⟩ w v w') :
    DoPost g db c ve fi lo bad pl ⟨k, a, b, cc, d⟩ first w v w' := by
  have e : doC c ⟨k, a, b, cc, d⟩ first = putC c ⟨a, b, cc, d⟩ := by
    unfold doC
    rw [if_neg (by simp only; omega), if_pos hk]
  unfold DoPost
  rw [e]
  rcases h with ⟨h1, rfl, h3⟩ | ⟨c2, es2, ve2, pl2, h1, rfl, h4, h5, h6⟩
  · exact ⟨false, [], rfl, .inl ⟨h1, rfl⟩, Hp.close (l := []) (r := []) (Hp.sublist h3 (List.nil_sublist _))⟩
  · have e2 : lgO g db c ve2 fi lo bad = lgO g db c2 ve2 fi lo bad := by obtain ⟨_, _, rfl⟩ := putC_some h1; rfl
    refine ⟨true, _, rfl, .inr ⟨c2, es2, ve2, pl2, h1, rfl, h4, rfl⟩, Hp.close (r := []) ?_⟩
    rw [List.append_nil, ← e2]; exact h6
theorem do_ok {g db : Nat} {c c2 : Cn} {ve ve2 : Value} {fi lo : Int} {bad : Value} {pl pl2 : Pl} {es2 : EQ} {r : Rc} {first : Bool} {w w' : World} (h1 : doC c r first = some c2) (h4 : CnR pl2 c2 es2 ve2) (h6 : Turn w w' [lgO g db c ve fi lo bad, plO pl] [lgO g db c2 ve2 fi lo bad, plO pl2]) : DoPost g db c ve fi lo bad pl r first w (.bool true) w' :=
  ⟨true, _, rfl, .inr ⟨c2, es2, ve2, pl2, h1, rfl, h4, rfl⟩, Hp.close (r := []) (by rw [List.append_nil]; exact h6)⟩
theorem do_no {g db : Nat} {c : Cn} {ve : Value} {fi lo : Int} {bad : Value} {pl : Pl} {r : Rc} {first : Bool} {w w' : World} {os : List Own} (h1 : doC c r first = none) (h6 : Turn w w' [lgO g db c ve fi lo bad, plO pl] os) : DoPost g db c ve fi lo bad pl r first w (.bool false) w' :=
  ⟨false, [], rfl, .inl ⟨h1, rfl⟩, Hp.close (l := []) (r := []) (Hp.sublist h6 (List.nil_sublist _))⟩

theorem PutNeg_ct (g c0 : Nat) (ix tm kd : Int) (vd : Value) (w : World) (h2 : w.cell? ⟨g, 2, none⟩ = some (.int .i64 ((c0 : Nat) : Int))) (hn : ix < 0) (hs : ∃ A l c, vd = .slice A l c) :
    Fun Tryz.prog 48 [.pointer (some ⟨g, 0, none⟩), .agg #[.int .i64 ix, .int .i64 tm, .int .i64 kd, vd]] w fun v w' => v = .bool false ∧ Fresh w w' [] := by
 obtain ⟨Ad, ld, cd, rfl⟩ := hs
 refine fun_of_sw Tryz.func48 rfl 44 rfl rfl ?_
 have hH := Hp.start w
 refine sw_sr <| gl_st (Bx [.int .i64 ix, .int .i64 tm, .int .i64 kd, .slice Ad ld cd] rfl hH ?_)
 clear hH; intro b1 w2 hH
 refine Go0 1 <| Dn <| sw_seq <| sw_seq <| Dr hH (slk sln) ?_
 clear hH; intro w3 hH hS9
 refine Gp1 1 [0] 5 (Pp b1 0) hS9 <| Dq 1 rfl (fun _ hS => (Lk 0 hS rfl rfl rfl)) hS9 <| Gp1 3 [2,3,4] 9 (.pointer (some ⟨g, 2, none⟩)) hS9 <| Dq 5 rfl (fun _ hS => (rd_load (by kernel_rfl) rfl (hS.zin _ _ h2))) hS9 <| Gp1 2 [6,7] 12 (.bool (decide ((ix : Int) ≤ (c0 : Int)))) hS9 <| Di 12 rfl (fun hg1 => ?_) (fun hg1 => ?_)
 refine Gp1 7 [8,9,10,11,12,13,14] 19 (.bool true) hS9 <| gdn [(0, .pointer (some ⟨g, 0, none⟩)), (3, Pp b1 0), (19, .bool true)] <| sw_next <| It <| sw_sr <| Go1 1 4 (.bool false) <| Dn <| Rt1 rfl rfl ?_
 exact ⟨rfl, (hH.sb sln).fresh⟩
 exfalso; omega
theorem Do_ct (g db : Nat) (c : Cn) (fi lo : Int) (bad ve vd : Value) (es : EQ) (pl : Pl) (k a b cc : Nat) (d : List UInt8) (first : Bool) (w : World) (hM : Mine w [lgO g db c ve fi lo bad, plO pl]) (hL : CnR pl c es ve) (hd : RB (off w (blksOf [lgO g db c ve fi lo bad, plO pl])) vd d) (hl : es.length ≤ 1000000) (hcx : c.ix + es.length < 9223372036854775808) (ha : a < 9223372036854775808) (hb : b < 9223372036854775808) (hcc : cc < 9223372036854775808) (hdl : d.length ≤ 1048576) :
    Fun Tryz.prog 72 [.pointer (some ⟨g, 1, none⟩), .agg #[.int .i64 ((k : Nat) : Int), .int .i64 ((a : Nat) : Int), .int .i64 ((b : Nat) : Int), .int .i64 ((cc : Nat) : Int), vd], .bool first] w fun v w' => DoPost g db c ve fi lo bad pl ⟨k, a, b, cc, d⟩ first w v w' := by
 obtain ⟨Ae, ce, rfl, he1, he2⟩ := hL.row.form
 obtain ⟨Ad, cd, rfl, hd1, hd2⟩ := hd.row.form
 refine fun_of_sw Tryz.func72 rfl 48 rfl rfl ?_
 have hH := Hp.start_mine hM
 refine sw_sr <| gl_st (Bx [Ni k, Ni a, Ni b, Ni cc, .slice Ad d.length cd] rfl hH ?_)
 clear hH; intro b1 w2 hH
 refine Go0 1 <| Dn <| sw_seq <| sw_sr <| Go1 1 7 (Pp b1 0) <| Gq rfl (Lk 2 hH rfl rfl rfl) <| Dn <| sw_block <| sw_sr <| Go1 2 23 (.bool ((k : Int) == (1 : Int))) <| Dn <| If rfl (fun hc1 => ?_) (fun hc1 => ?_)
 have hk1 : k = 1 := by omega
 refine Dr hH (slc (slk (slk sln))) ?_
 clear hH; intro w3 hH hS9
 refine Gp3 3 [0,1,2] 25 (Pp g 1) 26 (Pp g 1) 27 (Pp b1 1) hS9 <| Dq 3 rfl (fun _ hS => (Lk 1 hS rfl rfl rfl)) hS9 <| Gp1 1 [4] 29 (Pp b1 2) hS9 <| Dq 5 rfl (fun _ hS => (Lk 1 hS rfl rfl rfl)) hS9 <| Gp1 2 [6,7] 32 (Pp g 1) hS9 <| gds 8 (Ks 0 (Ni a) rfl hH rfl rfl ?_)
 clear hH; intro w4 hH
 refine Nl (hH.sb (slc (slk (slk sln)))) fun hS9 => Gp1 2 [9,10] 34 (Pp g 2) hS9 <| gds 11 (Ks 0 (Ni b) rfl hH rfl rfl ?_)
 clear hH; intro w5 hH
 refine Nl (hH.sb (slc (slk (slk sln)))) fun hS9 => gdn [] <| bkN <| sw_next <| sw_sr <| Go1 1 6 (.bool true) <| Dn <| Rt1 rfl rfl ?_
 replace hH := (hH.sb (slk (slk sln))).n2
 exact do_ok (c2 := { c with term := a, vote := b }) (by unfold doC; rw [if_pos hk1]) ⟨hL.fst, hL.row, hL.ok⟩ hH.turned
 have hk1 : ¬ k = 1 := by omega
 refine sw_sr <| Go1 2 35 (.bool ((k : Int) == (2 : Int))) <| Dn <| If rfl (fun hc2 => ?_) (fun hc2 => ?_)
 have hk2 : k = 2 := by omega
 refine sw_sr <| Go2 2 37 (Pp g 1) 38 (Pp b1 1) <| Gq rfl (Lk 2 hH rfl rfl rfl) <| Go1 1 40 (Pp b1 2) <| Gq rfl (Lk 2 hH rfl rfl rfl) <| Go1 1 42 (Pp b1 3) <| Gq rfl (Lk 2 hH rfl rfl rfl) <| Go1 1 44 (Pp b1 4) <| Gq rfl (Lk 2 hH rfl rfl rfl) <| Go1 1 46 (.agg #[Ni a, Ni b, Ni cc, .slice Ad d.length cd]) ?_
 replace hH : Hp w w2 _ _ ([_, _] ++ [_]) := hH
 refine gl_st (Sc rfl rfl (by have h9 := PutP1_ct g db c fi lo bad _ _ es ⟨a, b, cc, d⟩ pl _ hH.mine hL (hd.mono hH.zoff) hl hcx ha hb hcc hdl; exact h9.mono fun v w1 h => do_one (first := first) hk2 h) ?_)
 rintro _ w6 ⟨bb, o2, rfl, hor, hF7⟩
 replace hH := hH.turns hF7
 replace hH := hH.n2
 refine Go1 1 6 (.bool bb) <| Dn <| Rt1 rfl rfl ?_
 replace hH := hH.fr2
 replace hH := (hH.sb (slk sln)).n1
 exact ⟨bb, o2, rfl, hor, hH.turned⟩
 have hk2 : ¬ k = 2 := by omega
 refine sw_seq <| Dr hH (slc (slk (slk sln))) ?_
 clear hH; intro w8 hH hS9
 refine Gp4 4 [0,1,2,3] 9 (Pp g 1) 10 (Pp g 1) 11 (Pp g 1) 12 (Pp b1 1) hS9 <| Dq 4 rfl (fun _ hS => (Lk 1 hS rfl rfl rfl)) hS9 <| Gp1 1 [5] 14 (Pp b1 2) hS9 <| Dq 6 rfl (fun _ hS => (Lk 1 hS rfl rfl rfl)) hS9 <| Gp1 2 [7,8] 17 (Pp g 3) hS9 <| gds 9 (Ks 0 (Ni a) rfl hH rfl rfl ?_)
 clear hH; intro w9 hH
 refine Nl (hH.sb (slc (slk (slk sln)))) fun hS9 => Gp1 2 [10,11] 19 (Pp g 4) hS9 <| gds 12 (Ks 0 (Ni b) rfl hH rfl rfl ?_)
 clear hH; intro w10 hH
 refine Nl (hH.sb (slc (slk (slk sln)))) fun hS9 => Gp1 2 [13,14] 21 (Pp g 5) hS9 <| gds 15 (Ks 0 (.slice none 0 0) rfl hH rfl rfl ?_)
 clear hH; intro w11 hH
 refine Nl (hH.sb (slc (slk (slk sln)))) fun hS9 => gdn [(2, .bool first)] <| sw_next <| sw_sr <| Go1 2 6 (.bool first) <| Dn <| Rt1 rfl rfl ?_
 replace hH := (hH.sb (slk (slk sln))).n2
 cases first with
 | false => exact do_no (by unfold doC; rw [if_neg hk1, if_neg hk2, if_neg (by decide)]) hH.turned
 | true => exact do_ok (c2 := { c with ix := a, ah := b, es := [] }) (by unfold doC; rw [if_neg hk1, if_neg hk2, if_pos rfl]) (CnR.nil pl _ rfl) hH.turned
end Go.Proofs.YtajapgjemefoiaaGreatDoor
/- Layer 19 (wal): parts: the files of a log, as they lie in memory: what it answers. -/
set_option maxRecDepth 100000
set_option maxHeartbeats 4000000
set_option linter.unusedVariables false
set_option linter.unusedSimpArgs false
namespace Go.Proofs.YtajapgjemefoiaaGreatDoor
open Go.RowKit Go.SW
def PsI (pl : Pl) (F : List Fil) (i : Nat) (qs : List PV) : Prop := partsF (F.take i) = some (qs.map PV.pt) ∧ ∀ q ∈ qs, PvOk (pz pl) q
theorem partsF_snoc : ∀ (F : List Fil) (f : Fil), partsF (F ++ [f]) = (partsF F).bind fun ps => if numF f.name = 0 then some ps else (ptF f).map fun p => ps ++ [p]
  | [], f => by
    show (if numF f.name = 0 then some [] else (ptF f).bind fun p => (some []).map (p :: ·)) = (some []).bind _
    simp only [Option.bind_some]
    split
    · rfl
    · cases ptF f <;> rfl
  | g :: F, f => by
    rw [List.cons_append, partsF, partsF, partsF_snoc F f]
    by_cases h : numF g.name = 0
    · rw [if_pos h, if_pos h]
    · rw [if_neg h, if_neg h]
      cases ptF g with
      | none => rfl
      | some p =>
        simp only [Option.bind_some]
        cases partsF F with
        | none => rfl
        | some ps =>
          simp only [Option.bind_some, Option.map_some]
          split
          · rfl
          · cases ptF f <;> rfl
theorem partsF_none {F : List Fil} {f : Fil} {i : Nat} (h : F[i]? = some f) {qs : List Pt} (hq : partsF (F.take i) = some qs) (hn : numF f.name ≠ 0) (hp : ptF f = none) : partsF F = none := by
  have hi := (List.getElem?_eq_some_iff.1 h).1
  have he := (List.getElem?_eq_some_iff.1 h).2
  have key : ∀ (G H : List Fil), partsF G = none → partsF (G ++ H) = none := by
    intro G H
    induction H generalizing G with
    | nil => intro h; rwa [List.append_nil]
    | cons x H ih =>
      intro h
      have := ih (G ++ [x]) (by rw [partsF_snoc, h]; rfl)
      rwa [List.append_assoc] at this
  have h1 : partsF (F.take (i + 1)) = none := by
    rw [List.take_succ_eq_append_getElem hi, he, partsF_snoc, hq]
    simp only [Option.bind_some]
    rw [if_neg hn, hp]; rfl
  have := key (F.take (i + 1)) (F.drop (i + 1)) h1
  rwa [List.take_append_drop] at this
theorem psI_start (pl : Pl) (F : List Fil) : PsI pl F 0 [] := ⟨rfl, fun q h => by cases h⟩
theorem psI_skip {pl : Pl} {F : List Fil} {i : Nat} {qs : List PV} {f : Fil} (h : PsI pl F i qs) (hf : F[i]? = some f) (hn : numF f.name = 0) : PsI pl F (i + 1) qs := by
  have hi := (List.getElem?_eq_some_iff.1 hf).1
  have he := (List.getElem?_eq_some_iff.1 hf).2
  refine ⟨?_, h.2⟩
  rw [List.take_succ_eq_append_getElem hi, he, partsF_snoc, h.1]
  simp only [Option.bind_some]
  rw [if_pos hn]
theorem psI_more {pl p2 : Pl} {F : List Fil} {i : Nat} {qs : List PV} {f : Fil} {q : PV} (h : PsI pl F i qs) (hl : (pz pl).le (pz p2)) (hf : F[i]? = some f) (hn : numF f.name ≠ 0) (hp : ptF f = some q.pt) (hq : PvOk (pz p2) q) : PsI p2 F (i + 1) (qs ++ [q]) := by
  have hi := (List.getElem?_eq_some_iff.1 hf).1
  have he := (List.getElem?_eq_some_iff.1 hf).2
  refine ⟨?_, fun x hx => ?_⟩
  · rw [List.take_succ_eq_append_getElem hi, he, partsF_snoc, h.1]
    simp only [Option.bind_some]
    rw [if_neg hn, hp]
    simp
  · rcases List.mem_append.1 hx with hx | hx
    · exact (h.2 x hx).mono hl
    · rw [List.mem_singleton.1 hx]; exact hq
def RsI (pl : Pl) (ps : List (List UInt8)) (k : Nat) (rs : List (Rc × Value)) : Prop := rowsR (ps.take k) = some (rs.map (·.1)) ∧ ∀ r ∈ rs, RB (pz pl) r.2 r.1.d ∧ RcOk r.1
theorem rowsR_snoc : ∀ (ps : List (List UInt8)) (p : List UInt8), rowsR (ps ++ [p]) = (rowsR ps).bind fun rs => (readR p).map fun r => rs ++ [r]
  | [], p => by
    show ((readR p).bind fun x => (some []).map (x :: ·)) = (some []).bind _
    simp only [Option.bind_some]
    cases readR p <;> rfl
  | q :: ps, p => by
    rw [List.cons_append, rowsR, rowsR, rowsR_snoc ps p]
    cases readR q with
    | none => rfl
    | some r =>
      simp only [Option.bind_some]
      cases rowsR ps with
      | none => rfl
      | some rs =>
        simp only [Option.bind_some, Option.map_some]
        cases readR p <;> rfl
theorem rowsR_none {ps : List (List UInt8)} {k : Nat} {p : List UInt8} {rs : List Rc} (h : ps[k]? = some p) (hr : rowsR (ps.take k) = some rs) (hp : readR p = none) : rowsR ps = none := by
  have hi := (List.getElem?_eq_some_iff.1 h).1
  have he := (List.getElem?_eq_some_iff.1 h).2
  have key : ∀ (G H : List (List UInt8)), rowsR G = none → rowsR (G ++ H) = none := by
    intro G H
    induction H generalizing G with
    | nil => intro h; rwa [List.append_nil]
    | cons x H ih =>
      intro h
      have := ih (G ++ [x]) (by rw [rowsR_snoc, h]; rfl)
      rwa [List.append_assoc] at this
  have h1 : rowsR (ps.take (k + 1)) = none := by
    rw [List.take_succ_eq_append_getElem hi, he, rowsR_snoc, hr, hp]; rfl
  have := key (ps.take (k + 1)) (ps.drop (k + 1)) h1
  rwa [List.take_append_drop] at this
theorem rsI_start (pl : Pl) (ps : List (List UInt8)) : RsI pl ps 0 [] := ⟨rfl, fun q h => by cases h⟩
theorem rsI_step {pl p2 : Pl} {ps : List (List UInt8)} {k : Nat} {rs : List (Rc × Value)} {p : List UInt8} {r : Rc} {v : Value} (h : RsI pl ps k rs) (hl : (pz pl).le (pz p2)) (hp : ps[k]? = some p) (hr : readR p = some r) (hv : RB (pz p2) v r.d) : RsI p2 ps (k + 1) (rs ++ [(r, v)]) := by
  have hi := (List.getElem?_eq_some_iff.1 hp).1
  have he := (List.getElem?_eq_some_iff.1 hp).2
  refine ⟨?_, fun x hx => ?_⟩
  · rw [List.take_succ_eq_append_getElem hi, he, rowsR_snoc, h.1, hr]; simp
  · rcases List.mem_append.1 hx with hx | hx
    · exact ⟨(h.2 x hx).1.mono hl, (h.2 x hx).2⟩
    · rw [List.mem_singleton.1 hx]
      exact ⟨hv, readR_ok hr⟩
theorem numF_lt (s : List UInt8) : numF s < 1000000000 := by
  by_cases h : numF s = 0
  · omega
  unfold numF at h ⊢
  split
  · rename_i hc
    obtain ⟨h1, h2, h3, h4, h5⟩ := hc
    have := decV_lt (s.drop 3) h5
    have h6 : (s.drop 3).length ≤ 9 := by rw [List.length_drop]; omega
    have h7 : 10 ^ (s.drop 3).length ≤ 10 ^ 9 := Nat.pow_le_pow_right (by omega) h6
    omega
  · omega
theorem partsF_len : ∀ {F : List Fil} {ps : List Pt}, partsF F = some ps → ps.length ≤ F.length
  | [], ps, h => by cases h; simp
  | f :: F, ps, h => by
    rw [partsF] at h
    split at h
    · have := partsF_len h; rw [List.length_cons]; omega
    · obtain ⟨p, _, h2⟩ := Option.bind_eq_some_iff.1 h
      obtain ⟨r, h3, rfl⟩ := Option.map_eq_some_iff.1 h2
      have := partsF_len h3
      rw [List.length_cons, List.length_cons]; omega
theorem psI_len {pl : Pl} {F : List Fil} {i : Nat} {qs : List PV} (h : PsI pl F i qs) (hi : i ≤ F.length) : qs.length ≤ i := by
  have := partsF_len h.1
  rw [List.length_map, List.length_take] at this
  omega
theorem rowsR_len : ∀ {ps : List (List UInt8)} {rs : List Rc}, rowsR ps = some rs → rs.length = ps.length
  | [], rs, h => by cases h; rfl
  | p :: ps, rs, h => by
    obtain ⟨r, _, h2⟩ := Option.bind_eq_some_iff.1 (show (readR p).bind _ = some rs from h)
    obtain ⟨q, h3, rfl⟩ := Option.map_eq_some_iff.1 h2
    rw [List.length_cons, List.length_cons, rowsR_len h3]
theorem rsI_len {pl : Pl} {ps : List (List UInt8)} {k : Nat} {rs : List (Rc × Value)} (h : RsI pl ps k rs) (hk : k ≤ ps.length) : rs.length = k := by
  have := rowsR_len h.1
  rw [List.length_map, List.length_take] at this
  omega
theorem scan_le : ∀ (b : List UInt8) (k : Nat), k ≤ b.length → (scanA b k).2.1 ≤ b.length ∧ (scanA b k).1.length * 8 ≤ b.length - k := by
  intro b k
  obtain ⟨n, hn⟩ : ∃ n, b.length - k = n := ⟨_, rfl⟩
  induction n using Nat.strongRecOn generalizing k with
  | ind n ih =>
    intro hk
    by_cases h1 : b.length ≤ k
    · rw [scan_end h1]; exact ⟨hk, by simp⟩
    by_cases h2 : (openF (b.drop k)).2.2 = 0
    · have hu := openF_used h2
      rw [List.length_drop] at hu
      rw [scan_step (by omega) h2]
      have := ih (b.length - (k + (openF (b.drop k)).2.1)) (by omega) (k + (openF (b.drop k)).2.1) rfl (by omega)
      refine ⟨this.1, ?_⟩
      rw [List.length_cons]
      omega
    · rw [scan_err (by omega) h2]; exact ⟨hk, by simp⟩

theorem rqG_rb {w0 w : World} {z : Zone} {F : List Nat} {os : List Own} (hH : Hp w0 w z F os) (k : Nat) {e : TypeId} {qs : RQ} (hk : os[k]? = some (rqG e qs)) {i : Nat} {q : List UInt8 × Value} (hq : qs[i]? = some q) : RB w.cell? q.2 q.1 := by
  have h1 := hH.own _ (List.mem_of_getElem? hk)
  have h2 : (rqO e q).at w := h1 _ (List.mem_map.2 ⟨q, List.mem_of_getElem? hq, rfl⟩)
  exact Row.of_own h2

def RdPost (p : List UInt8) (w : World) (v : Value) (w' : World) : Prop :=
  ∃ bad fb r vd, v = .tuple #[.agg #[.int .i64 ((r.k : Nat) : Int), .int .i64 ((r.a : Nat) : Int), .int .i64 ((r.b : Nat) : Int), .int .i64 ((r.c : Nat) : Int), vd], ifW (!bad) 178 (.pointer (some ⟨fb, 0, none⟩))] ∧ ((bad = true ∧ readR p = none) ∨ (bad = false ∧ readR p = some r)) ∧
    Fresh w w' [.row vd 5 1 r.d.length (bv r.d), .grp (bif bad then [.blk fb 180 [.int .i64 90, .int .i64 0]] else [])]
theorem ReadP_ct (vp : Value) (p : List UInt8) (w : World) (hp : RB w.cell? vp p) : Fun Tryz.prog 67 [vp] w fun v w' => RdPost p w v w' := by
  refine (Read_ct vp p w hp).mono ?_
  rintro v w' (⟨fb, h1, rfl, h2⟩ | ⟨r, vd, h1, rfl, h2⟩)
  · refine ⟨true, fb, ⟨0, 0, 0, 0, []⟩, .slice none 0 0, rfl, .inl ⟨rfl, h1⟩, ?_⟩
    have h3 := (Hp.nilRow h2 5 1).pick [1, 0] (by kernel_rfl) rfl
    exact (Hp.close (l := [.blk fb 180 [.int .i64 90, .int .i64 0]]) (r := [.row (.slice none 0 0) 5 1 0 []]) (h3.pick [1, 0] (by kernel_rfl) rfl)).pick [1, 0] (by kernel_rfl) rfl
  · exact ⟨false, 0, r, vd, rfl, .inr ⟨rfl, h1⟩, Hp.nogrp h2⟩
theorem if_bad {bad : Bool} (h : bad = true) (T : TypeId) (v : Value) : ifW (!bad) T v = .iface T v := by rw [h]; rfl
theorem parts_keys : ∀ {F : List Fil} {ps : List Pt}, partsF F = some ps → ps.map (·.k) = ((F.filter fun f => numF f.name != 0).map fun f => numF f.name)
  | [], ps, h => by cases h; rfl
  | f :: F, ps, h => by
    rw [partsF] at h
    split at h
    · rename_i h0
      rw [List.filter_cons_of_neg (by simp [h0])]
      exact parts_keys h
    · rename_i h0
      obtain ⟨p, h1, h2⟩ := Option.bind_eq_some_iff.1 h
      obtain ⟨r, h3, rfl⟩ := Option.map_eq_some_iff.1 h2
      rw [List.filter_cons_of_pos (by simp [h0]), List.map_cons, List.map_cons, parts_keys h3]
      obtain ⟨rs, _, rfl⟩ := Option.map_eq_some_iff.1 (show (rowsR (scanA f.b 0).1).map _ = some p from h1)
      rfl
theorem parts_nodup {F : List Fil} (hS : Srt F) {ps : List Pt} (h : partsF F = some ps) : ps.Pairwise fun a b => a.k ≠ b.k := by
  have h1 : (ps.map (·.k)).Nodup := by
    rw [parts_keys h]
    unfold List.Nodup
    rw [List.pairwise_map]
    refine List.Pairwise.imp_of_mem ?_ (hS.filter _)
    intro a b ha hb hlt e
    have ha2 : numF a.name ≠ 0 := by simpa using (List.mem_filter.1 ha).2
    have hb2 : numF b.name ≠ 0 := by simpa using (List.mem_filter.1 hb).2
    have := nameF_numF ha2
    rw [e, ← nameF_numF hb2] at this
    exact bl_ne hlt this
  exact List.pairwise_map.1 h1
theorem parts_sorted {F : List Fil} (hS : Srt F) {qs ds : List PV} (h : partsF F = some (qs.map PV.pt)) (hp : ds.Perm qs) (hs : ds.Pairwise fun a b => a.k ≤ b.k) : (partsF F).map sortP = some (ds.map PV.pt) := by
  rw [h, Option.map_some, Option.some.injEq]
  have hnd := parts_nodup hS h
  have h1 : (sortP (qs.map PV.pt)).Perm (ds.map PV.pt) := (List.mergeSort_perm _ _).trans (hp.symm.map _)
  have h2 : (ds.map PV.pt).Pairwise fun a b => a.k ≤ b.k := List.pairwise_map.2 hs
  have hinj : ∀ a ∈ sortP (qs.map PV.pt), ∀ b ∈ sortP (qs.map PV.pt), a.k = b.k → a = b := by
    intro a ha b hb e
    have ha2 := (List.mergeSort_perm _ _).mem_iff.1 ha
    have hb2 := (List.mergeSort_perm _ _).mem_iff.1 hb
    exact nodup_inj (f := (·.k)) (List.pairwise_map.2 hnd) ha2 hb2 e
  exact List.Perm.eq_of_pairwise (le := fun a b : Pt => a.k ≤ b.k) (fun a b ha hb h3 h4 => hinj a ha b (h1.mem_iff.2 hb) (by omega)) (sortP_sorted _) h2 h1

theorem Parts_ct (db mb ab : Nat) (D : Dsk) (es : List PE) (M : Nat) (w : World) (hM : Mine w [.grp (dskO db mb ab D es)]) (hR : Rep es D.fs) (hG : Good D.fs M) (hMM : M ≤ 4294967296) (hN : D.fs.length ≤ 1000) :
    Fun Tryz.prog 40 [.pointer (some ⟨db, 0, none⟩)] w fun v w' => (∃ fb, partsF D.fs = none ∧ v = .tuple #[.slice none 0 0, .iface 178 (.pointer (some ⟨fb, 0, none⟩))] ∧ Turn w w' [.grp (dskO db mb ab D es)] [.grp (dskO db mb ab D es), .blk fb 180 [.int .i64 90, .int .i64 0]]) ∨
      (∃ vf ds pl, (partsF D.fs).map sortP = some (ds.map PV.pt) ∧ v = .tuple #[vf, .nilIface] ∧ (∀ q ∈ ds, PvOk (pz pl) q) ∧ Turn w w' [.grp (dskO db mb ab D es)] [.grp (dskO db mb ab D es), .row vf 106 4 ds.length (rowC pvC ds), plO pl]) := by
 refine fun_of_sw Tryz.func40 rfl 69 rfl rfl ?_
 have hH := Hp.start_mine hM
 refine sw_sr <| Go0 2 <| Dn <| sw_sr <| Go1 1 4 (.slice none 0 0) ?_
 replace hH := (hH.nilRow 106 4).pool
 replace hH : Hp w w _ _ [.grp (dskO db mb ab D es), .row (.slice none 0 0) 106 4 0 [], plO []] := hH
 refine Dn <| sw_seq <| sw_sr <| Go1 1 16 (Pp db 0) ?_
 replace hH : Hp w w _ _ ([_] ++ [_, _]) := hH
 refine gl_st (Sc rfl rfl (Files_ct db mb ab D es M _ hH.mine hR hG (by omega) (by omega)) ?_)
 rintro _ w2 ⟨v1, fs, rfl, hfs, hF3⟩
 replace hH := hH.turns hF3
 replace hH := hH.n5
 obtain ⟨A4, c5, rfl, hl6, hm7⟩ := hH.row_form 3 rfl
 have hfl : fs.length = D.fs.length := by have := congrArg List.length hfs; simpa using this
 refine Gq rfl (Ln (e := 83) rfl) <| Go1 1 19 (.int .i64 0) <| Dn <| sw_block ?_
 replace hH := hH.fr2.fr2.fr5.fr5.fr5
 replace hH := (hH.sb (slk (slk (slk (slk (slk sln)))))).n5
 refine Lp (γ := Nat × List PV × Pl × Option Addr × Nat) hH (fun (i, qs, pl, Ao, co) => [(4, .slice Ao qs.length co), (17, .slice A4 fs.length c5), (18, Ni fs.length), (19, Ni i)]) (fun (i, qs, pl, Ao, co) w_ H_ => (i ≤ fs.length) ∧ (PsI pl D.fs i qs) ∧ H_ [.grp (dskO db mb ab D es), .row (.slice A4 fs.length c5) 83 3 fs.length (rowC filC fs), filRs fs, .row (.slice Ao qs.length co) 106 4 qs.length (rowC pvC qs), plO pl]) (fun (i, qs, pl, Ao, co) => fs.length - i) (0, [], [], none, 0) ?_ ?_
 · exact ⟨by omega, psI_start _ _, hH⟩
 clear hH
 rintro ⟨i, qs, pl, Ao, co⟩ w8 ⟨hi, hI, hH⟩
 have hql : qs.length ≤ i := psI_len hI (by omega)
 refine swk [(4, .slice Ao qs.length co), (17, .slice A4 fs.length c5), (18, Ni fs.length), (19, Ni i)] <| sw_sr <| Go1 1 20 (.bool (decide ((i : Int) < ((fs.length : Nat) : Int)))) <| Dn <| sw_seq <| If rfl (fun hc1 => ?_) (fun hc1 => ?_)
 refine Sk <| sw_seq <| sw_block ?_
 obtain ⟨⟨f, fv⟩, hq⟩ : ∃ q, fs[i]? = some q := ⟨_, List.getElem?_eq_getElem (by omega)⟩
 have hf : D.fs[i]? = some f := by rw [← hfs, List.getElem?_map, hq]; rfl
 obtain ⟨Aq, cq, rfl, hq8, hq9⟩ := (show RB _ fv f.b from rs_rbs hH 2 rfl _ (List.mem_of_getElem? hq)).row.form
 have hfn := hG.nm f (List.mem_of_getElem? hf)
 have hfb := hG.short f (List.mem_of_getElem? hf)
 have hnl := numF_lt f.name
 refine sw_sr ?_
 obtain ⟨b10, hb9, hi11⟩ := hH.row_idx 1 rfl i (by omega)
 refine Gq rfl (Ix (e := 83) 3 rfl rfl hi11) <| Gq rfl (rd_loadOA (q := 3) 1 (by kernel_rfl) hH rfl rfl hb9 (by kernel_rfl) [.string (bs f.name), .slice Aq f.b.length cq, Ni f.sure] rfl (rowC_allO filC_len hq _ rfl)) <| gl_st (Alc [.string (bs []), .slice none 0 0, .int .i64 0] rfl hH ?_)
 clear hH; intro b12 w13 hH
 refine gl_st (Ka 5 [.string (bs f.name), .slice Aq f.b.length cq, Ni f.sure] [.string (bs f.name), .slice Aq f.b.length cq, Ni f.sure] rfl hH rfl rfl ?_)
 clear hH; intro w14 hH
 refine Dn <| sw_sr <| Go1 1 23 (Pp b12 0) <| Gq rfl (Lk 5 hH rfl rfl rfl) <| gl_st (Sc rfl rfl (Number_ct f.name _ (by first | omega | (simp <;> omega))) ?_)
 rintro _ w15 ⟨rfl, hF16⟩
 replace hH := hH.call hF16
 refine Go1 1 7 (Ni (numF f.name)) <| Dn <| sw_seq <| sw_sr <| Go1 2 27 (.bool (((numF f.name : Nat) : Int) == (0 : Int))) <| Dn <| If rfl (fun hc2 => ?_) (fun hc2 => ?_)
 have hk0 : numF f.name = 0 := by omega
 refine sw_exit <| thX <| bkH <| sw_next <| sw_region <| Gw0 1 65 ((i : Int) + 1) ((i + 1 : Nat) : Int) <| Go1 1 19 (Ni (i + 1)) <| Dd <| rnd_end (g := (i, qs, pl, Ao, co)) (i + 1, qs, pl, Ao, co) (by kernel_rfl) ?_ ?_
 replace hH := (hH.sb (slk (slk (slk (slk (slk sln)))))).n5
 · exact ⟨by omega, psI_skip hI hf hk0, hH⟩
 · show fs.length - (i + 1) < fs.length - i; omega
 have hk0 : numF f.name ≠ 0 := by omega
 refine Sk <| sw_sr <| Go1 1 29 (Pp b12 1) <| Gq rfl (Lk 5 hH rfl rfl rfl) <| gl_st (Sc rfl rfl (Scan_ct _ f.b _ (show RB _ _ f.b from rs_rbs hH 2 rfl _ (List.mem_of_getElem? hq)) (by omega)) ?_)
 rintro _ w18 ⟨v17, rqs, rfl, hrs, hF19⟩
 replace hH := hH.call hF19
 obtain ⟨A20, c21, rfl, hl22, hm23⟩ := hH.row_form 6 rfl
 refine Go3 7 8 (.slice A20 rqs.length c21) 9 (Ni ((scanA f.b 0).2.1)) 10 (errV ((scanA f.b 0).2.2)) <| Dn <| sw_sr <| Go3 3 35 (Ni (numF f.name)) 36 (Ni ((scanA f.b 0).2.1)) 37 (errV ((scanA f.b 0).2.2)) <| Gq rfl (rd_err_ne (by kernel_rfl) rfl) <| Go1 1 39 (.agg #[Ni (numF f.name), Ni ((scanA f.b 0).2.1), .bool (((scanA f.b 0).2.2) != 0), .slice none 0 0]) <| gl_st (Alc [.int .i64 0, .int .i64 0, .bool false, .slice none 0 0] rfl hH ?_)
 clear hH; intro b24 w25 hH
 replace hH := hH.n9
 refine gl_st (Ka 8 [Ni (numF f.name), Ni ((scanA f.b 0).2.1), .bool (((scanA f.b 0).2.2) != 0), .slice none 0 0] [Ni (numF f.name), Ni ((scanA f.b 0).2.1), .bool (((scanA f.b 0).2.2) != 0), .slice none 0 0] rfl hH rfl rfl ?_)
 clear hH; intro w26 hH
 replace hH := hH.n9
 refine Dn <| sw_seq <| sw_sr <| Go1 1 40 (.slice A20 rqs.length c21) <| Gq rfl (Ln (e := 37) rfl) <| Go1 1 42 (.int .i64 0) <| Dn <| sw_block ?_
 replace hH := hH.nilRow 113 5
 replace hH : Hp w w26 _ _ [.grp (dskO db mb ab D es), .row (.slice A4 fs.length c5) 83 3 fs.length (rowC filC fs), filRs fs, .row (.slice Ao qs.length co) 106 4 qs.length (rowC pvC qs), plO pl, .blk b12 83 [.string (bs f.name), .slice Aq f.b.length cq, Ni f.sure], .row (.slice A20 rqs.length c21) 37 1 rqs.length (rowC rqC rqs), rqG 5 rqs, .blk b24 106 [Ni (numF f.name), Ni ((scanA f.b 0).2.1), .bool (((scanA f.b 0).2.2) != 0), .slice none 0 0], .row (.slice none 0 0) 113 5 0 []] := hH
 have hsl := scan_le f.b 0 (Nat.zero_le _)
 have hrl : rqs.length = (scanA f.b 0).1.length := by have := congrArg List.length hrs; simpa using this.symm
 replace hH := hH.fr10.fr10.fr10.fr10.fr9.fr9.fr9.fr9.fr9
 replace hH := (hH.sb (slk (slk (slk (slk (slk (slk (slk (slk (slk sln)))))))))).n9
 refine Lp (γ := Nat × List (Rc × Value) × Pl × Option Addr × Nat) hH (fun (k, rs, pk, Ac, cc) => [(4, .slice Ao qs.length co), (11, Pp b24 0), (17, .slice A4 fs.length c5), (18, Ni fs.length), (19, Ni i), (40, .slice A20 rqs.length c21), (41, Ni rqs.length), (42, Ni k)]) (fun (k, rs, pk, Ac, cc) w_ H_ => (k ≤ rqs.length) ∧ (RsI pk (scanA f.b 0).1 k rs) ∧ ((pz pl).le (pz pk)) ∧ H_ [.grp (dskO db mb ab D es), .row (.slice A4 fs.length c5) 83 3 fs.length (rowC filC fs), filRs fs, .row (.slice Ao qs.length co) 106 4 qs.length (rowC pvC qs), plO pk, .row (.slice A20 rqs.length c21) 37 1 rqs.length (rowC rqC rqs), rqG 5 rqs, .blk b24 106 [Ni (numF f.name), Ni ((scanA f.b 0).2.1), .bool (((scanA f.b 0).2.2) != 0), .slice Ac rs.length cc], .row (.slice Ac rs.length cc) 113 5 rs.length (rowC rcC rs)]) (fun (k, rs, pk, Ac, cc) => rqs.length - k) (0, [], pl, none, 0) ?_ ?_
 · exact ⟨by omega, rsI_start _ _, Zone.le.refl _, hH⟩
 clear hH
 rintro ⟨k, rs, pk, Ac, cc⟩ w27 ⟨hk, hJ, hle, hH⟩
 have hrsl := rsI_len hJ (by omega)
 refine swk [(4, .slice Ao qs.length co), (11, Pp b24 0), (17, .slice A4 fs.length c5), (18, Ni fs.length), (19, Ni i), (40, .slice A20 rqs.length c21), (41, Ni rqs.length), (42, Ni k)] <| sw_sr <| Go1 1 43 (.bool (decide ((k : Int) < ((rqs.length : Nat) : Int)))) <| Dn <| sw_seq <| If rfl (fun hc3 => ?_) (fun hc3 => ?_)
 refine Sk <| sw_seq <| sw_block ?_
 obtain ⟨⟨pq, vr⟩, hrq⟩ : ∃ q, rqs[k]? = some q := ⟨_, List.getElem?_eq_getElem (by omega)⟩
 have hpq : (scanA f.b 0).1[k]? = some pq := by rw [hrs, List.getElem?_map, hrq]; rfl
 obtain ⟨Ar, cr, rfl, _, _⟩ := (show RB _ vr pq from rqG_rb hH 6 rfl hrq).row.form
 refine sw_sr ?_
 obtain ⟨b29, hb28, hi30⟩ := hH.row_idx 5 rfl k (by omega)
 refine Gq rfl (Ix (e := 37) 1 rfl rfl hi30) <| Gq rfl (Lo 5 hH rfl rfl hb28 (rowC_at rqC_len hrq 0 (by decide) rfl)) <| Go1 1 13 (.slice Ar pq.length cr) <| Dn <| sw_sr <| Go1 1 47 (.slice Ar pq.length cr) <| gl_st (Sc rfl rfl (ReadP_ct _ pq _ (show RB _ _ pq from rqG_rb hH 6 rfl hrq)) ?_)
 rintro _ w31 ⟨bad, fb, r, vd, rfl, hor, hF32⟩
 replace hH := hH.call hF32
 obtain ⟨Ad, cd, rfl, _, _⟩ := hH.row_form 9 rfl
 replace hH : Hp w w31 _ _ [.grp (dskO db mb ab D es), .row (.slice A4 fs.length c5) 83 3 fs.length (rowC filC fs), filRs fs, .row (.slice Ao qs.length co) 106 4 qs.length (rowC pvC qs), plO pk, .row (.slice A20 rqs.length c21) 37 1 rqs.length (rowC rqC rqs), rqG 5 rqs, .blk b24 106 [Ni (numF f.name), Ni ((scanA f.b 0).2.1), .bool (((scanA f.b 0).2.2) != 0), .slice Ac rs.length cc], .row (.slice Ac rs.length cc) 113 5 rs.length (rowC rcC rs), .row (.slice Ad r.d.length cd) 5 1 r.d.length (bv r.d), .grp (bif bad then [.blk fb 180 [.int .i64 90, .int .i64 0]] else [])] := hH
 replace hH := hH.n11
 refine Go2 3 49 (.agg #[Ni r.k, Ni r.a, Ni r.b, Ni r.c, .slice Ad r.d.length cd]) 50 (ifW (!bad) 178 (.pointer (some ⟨fb, 0, none⟩))) <| gl_st (Alc [.int .i64 0, .int .i64 0, .int .i64 0, .int .i64 0, .slice none 0 0] rfl hH ?_)
 clear hH; intro b33 w34 hH
 replace hH := hH.n12
 refine gl_st (Ka 11 [Ni r.k, Ni r.a, Ni r.b, Ni r.c, .slice Ad r.d.length cd] [Ni r.k, Ni r.a, Ni r.b, Ni r.c, .slice Ad r.d.length cd] rfl hH rfl rfl ?_)
 clear hH; intro w35 hH
 replace hH := hH.n12
 refine Go1 1 15 (ifW (!bad) 178 (.pointer (some ⟨fb, 0, none⟩))) <| Dn <| sw_seq <| sw_sr <| Go1 1 51 (ifW (!bad) 178 (.pointer (some ⟨fb, 0, none⟩))) <| Gq rfl (rd_if_ne (by kernel_rfl) rfl) <| Dn <| If rfl (fun hc4 => ?_) (fun hc4 => ?_)
 have hbad : bad = true := by simpa using hc4
 refine sw_sr <| Go2 3 2 (.slice none 0 0) 3 (ifW (!bad) 178 (.pointer (some ⟨fb, 0, none⟩))) <| Dn <| Rt2 rfl rfl rfl ?_
 replace hH := hH.fr11.fr2
 replace hH := (hH.sb (slk (slk sln))).n2
 have hrn := (hor.resolve_right (fun h => by rw [h.1] at hbad; cases hbad)).2
 have hpn : ptF f = none := by unfold ptF; rw [rowsR_none hpq hJ.1 hrn]; rfl
 rw [hbad] at hH ⊢
 have h9 : Hp _ _ _ _ [.blk fb 180 [.int .i64 90, .int .i64 0], .grp (dskO db mb ab D es)] := ((hH.pick [1, 0] (by kernel_rfl) rfl : Hp _ _ _ _ [.grp [.blk fb 180 [.int .i64 90, .int .i64 0]], .grp (dskO db mb ab D es)])).open_
 exact .inl ⟨fb, partsF_none hf hI.1 hk0 hpn, rfl, (h9.pick [1, 0] (by kernel_rfl) rfl).turned⟩
 have hbad : bad = false := by simpa using hc4
 refine Sk ?_
 replace hH := hH.fr5.fr10
 obtain ⟨p2, hvd, hH⟩ := pl_add hH
 replace hH : Hp w w35 _ _ [plO (pk ++ p2), .grp (dskO db mb ab D es), .row (.slice A4 fs.length c5) 83 3 fs.length (rowC filC fs), filRs fs, .row (.slice Ao qs.length co) 106 4 qs.length (rowC pvC qs), .row (.slice A20 rqs.length c21) 37 1 rqs.length (rowC rqC rqs), rqG 5 rqs, .blk b24 106 [Ni (numF f.name), Ni ((scanA f.b 0).2.1), .bool (((scanA f.b 0).2.2) != 0), .slice Ac rs.length cc], .row (.slice Ac rs.length cc) 113 5 rs.length (rowC rcC rs), .grp (bif bad then [.blk fb 180 [.int .i64 90, .int .i64 0]] else []), .blk b33 113 [Ni r.k, Ni r.a, Ni r.b, Ni r.c, .slice Ad r.d.length cd]] := hH
 have hrd := hor.resolve_left (fun h => by rw [h.1] at hbad; cases hbad)
 replace hrd := hrd.2
 refine sw_region <| Go1 1 54 (Pp b24 3) <| Gq rfl (Lk 7 hH rfl rfl rfl) <| Gq rfl (La 10 [Ni r.k, Ni r.a, Ni r.b, Ni r.c, .slice Ad r.d.length cd] hH rfl rfl) <| gl_st (st_buildS (e := 113) (zv := .agg #[.int .i64 0, .int .i64 0, .int .i64 0, .int .i64 0, .slice none 0 0]) (m := 5) (bytes := 56) rfl rfl rfl (by kernel_rfl) (by kernel_rfl) rfl (cs := [Ni r.k, Ni r.a, Ni r.b, Ni r.c, .slice Ad r.d.length cd]) (by kernel_rfl) rfl hH ?_)
 clear hH; intro b36 w37 hH
 replace hH := hH.n12
 refine gl_st (Apd (e := 113) (.agg #[.int .i64 0, .int .i64 0, .int .i64 0, .int .i64 0, .slice none 0 0]) 5 56 8 rfl hH rfl rfl rfl (hH.row_reads 11 rfl) (by simp [Value.oneCell']) (by unfold maxLen; omega) (by omega) ?_)
 clear hH; intro v38 w39 hH
 replace hH := hH.row_eq 8 (l' := (rs ++ [(r, Value.slice Ad r.d.length cd)]).length) (xs' := rowC rcC (rs ++ [(r, Value.slice Ad r.d.length cd)])) rfl (by simp) (rowC_app rcC rs [(r, Value.slice Ad r.d.length cd)])
 obtain ⟨A40, c41, rfl, hl42, hm43⟩ := hH.row_form 8 rfl
 replace hH := hH.n12
 refine Go1 1 59 (Pp b24 3) <| gl_st (Ks 7 (.slice A40 ((rs ++ [(r, Value.slice Ad r.d.length cd)]).length) c41) rfl hH rfl rfl ?_)
 clear hH; intro w44 hH
 replace hH := hH.n12
 refine Dd <| bkN <| sw_next <| sw_region <| Gw0 1 60 ((k : Int) + 1) ((k + 1 : Nat) : Int) <| Go1 1 42 (Ni (k + 1)) <| Dd <| rnd_end (g := (k, rs, pk, Ac, cc)) (k + 1, rs ++ [(r, Value.slice Ad r.d.length cd)], pk ++ p2, A40, c41) (by kernel_rfl) ?_ ?_
 replace hH := hH.fr9.fr9.fr9.fr9.fr5.fr9.fr9.fr9.fr9
 replace hH := (hH.sb (slk (slk (slk (slk (slk (slk (slk (slk (slk sln)))))))))).n9
 · exact ⟨by omega, rsI_step hJ (pz_app _ _) hpq hrd hvd, hle.trans (pz_app _ _), hH⟩
 · show rqs.length - (k + 1) < rqs.length - k; omega
 refine sw_exit <| thX <| thX <| bkH <| sw_next ?_
 have hJ2 := rsI_len hJ (by omega)
 have hke : k = rqs.length := by omega
 replace hH := hH.fr5.fr9
 obtain ⟨p3, hrr, hH⟩ := pl_add hH
 replace hH : Hp w w27 _ _ [plO (pk ++ p3), .grp (dskO db mb ab D es), .row (.slice A4 fs.length c5) 83 3 fs.length (rowC filC fs), filRs fs, .row (.slice Ao qs.length co) 106 4 qs.length (rowC pvC qs), .row (.slice A20 rqs.length c21) 37 1 rqs.length (rowC rqC rqs), rqG 5 rqs, .blk b24 106 [Ni (numF f.name), Ni ((scanA f.b 0).2.1), .bool (((scanA f.b 0).2.2) != 0), .slice Ac rs.length cc]] := hH
 have hrall : rowsR (scanA f.b 0).1 = some (rs.map (·.1)) := by have := hJ.1; rwa [List.take_of_length_le (by omega)] at this
 have hpf : ptF f = some (PV.pt (⟨numF f.name, (scanA f.b 0).2.1, (scanA f.b 0).2.2 != 0, rs, Ac, cc⟩ : PV)) := by unfold ptF; rw [hrall]; simp only [Option.map_some, PV.pt, PV.recs]; congr 2; rw [Bool.eq_iff_iff]; simp
 have hpok : PvOk (pz (pk ++ p3)) (⟨numF f.name, (scanA f.b 0).2.1, (scanA f.b 0).2.2 != 0, rs, Ac, cc⟩ : PV) := ⟨hrr, fun r hr => ⟨(hJ.2 r hr).1.mono (pz_app _ _), (hJ.2 r hr).2⟩, hnl, by simp only; omega⟩
 refine sw_region <| Go1 1 61 (.slice Ao qs.length co) <| Gq rfl (La 7 [Ni (numF f.name), Ni ((scanA f.b 0).2.1), .bool (((scanA f.b 0).2.2) != 0), .slice Ac rs.length cc] hH rfl rfl) <| gl_st (st_buildS (e := 106) (zv := .agg #[.int .i64 0, .int .i64 0, .bool false, .slice none 0 0]) (m := 4) (bytes := 48) rfl rfl rfl (by kernel_rfl) (by kernel_rfl) rfl (cs := [Ni (numF f.name), Ni ((scanA f.b 0).2.1), .bool (((scanA f.b 0).2.2) != 0), .slice Ac rs.length cc]) (by kernel_rfl) rfl hH ?_)
 clear hH; intro b45 w46 hH
 replace hH := hH.n9
 refine gl_st (Apd (e := 106) (.agg #[.int .i64 0, .int .i64 0, .bool false, .slice none 0 0]) 4 48 4 rfl hH rfl rfl rfl (hH.row_reads 8 rfl) (by simp [Value.oneCell']) (by unfold maxLen; omega) (by omega) ?_)
 clear hH; intro v47 w48 hH
 replace hH := hH.row_eq 4 (l' := (qs ++ [(⟨numF f.name, (scanA f.b 0).2.1, (scanA f.b 0).2.2 != 0, rs, Ac, cc⟩ : PV)]).length) (xs' := rowC pvC (qs ++ [(⟨numF f.name, (scanA f.b 0).2.1, (scanA f.b 0).2.2 != 0, rs, Ac, cc⟩ : PV)])) rfl (by simp) (rowC_app pvC qs [(⟨numF f.name, (scanA f.b 0).2.1, (scanA f.b 0).2.2 != 0, rs, Ac, cc⟩ : PV)])
 obtain ⟨A49, c50, rfl, hl51, hm52⟩ := hH.row_form 4 rfl
 replace hH := hH.n9
 refine Go1 1 4 (.slice A49 ((qs ++ [(⟨numF f.name, (scanA f.b 0).2.1, (scanA f.b 0).2.2 != 0, rs, Ac, cc⟩ : PV)]).length) c50) <| Dd <| bkN <| sw_next <| sw_region <| Gw0 1 65 ((i : Int) + 1) ((i + 1 : Nat) : Int) <| Go1 1 19 (Ni (i + 1)) <| Dd <| rnd_end (g := (i, qs, pl, Ao, co)) (i + 1, qs ++ [(⟨numF f.name, (scanA f.b 0).2.1, (scanA f.b 0).2.2 != 0, rs, Ac, cc⟩ : PV)], pk ++ p3, A49, c50) (by kernel_rfl) ?_ ?_
 replace hH := hH.fr5.fr5.fr5.fr5
 replace hH := (hH.sb (slk (slk (slk (slk (slk sln)))))).n5
 · exact ⟨by omega, psI_more hI (hle.trans (pz_app _ _)) hf hk0 hpf hpok, hH⟩
 · show fs.length - (i + 1) < fs.length - i; omega
 refine sw_exit <| thX <| thX <| bkH <| sw_next <| sw_sr <| Go1 1 66 (.slice Ao qs.length co) ?_
 replace hH : Hp w w8 _ _ ([_] ++ [_, _, _, _]) := hH.fr4
 refine gl_st (Sc rfl rfl (PartsSort_ct _ qs _ hH.mine (by omega)) ?_)
 rintro _ w53 ⟨ds, rfl, hds, hF54⟩
 replace hH := hH.turns hF54
 replace hH := hH.n5
 have hdl : ds.length = qs.length := hds.1.length_eq
 refine Dn <| sw_sr <| Go2 3 2 (.slice Ao qs.length co) 3 (.nilIface) <| Dn <| Rt2 rfl rfl rfl ?_
 replace hH := hH.fr4.fr5.fr3
 replace hH := (hH.sb (slk (slk (slk sln)))).n3
 have hie : D.fs.length ≤ i := by omega
 have hps := hI.1
 rw [List.take_of_length_le hie] at hps
 exact .inr ⟨_, ds, pl, parts_sorted hG.srt hps hds.1 hds.2, rfl, fun q hq => hI.2 q (hds.1.mem_iff.1 hq), hH.turned⟩
end Go.Proofs.YtajapgjemefoiaaGreatDoor
/- Layer 19 (wal): a log is read from its files: what it answers. -/
set_option maxRecDepth 100000
set_option maxHeartbeats 4000000
set_option linter.unusedVariables false
set_option linter.unusedSimpArgs false
namespace Go.Proofs.YtajapgjemefoiaaGreatDoor
open Go.RowKit Go.SW
theorem pv_drop {c : Zone} {v : Value} {qs : List PV} {f : Nat} (hf : f ≤ qs.length) (h : Row c v 4 (qs.length - f) (((rowC pvC qs).drop (f * 4)).take ((qs.length - f) * 4))) : Row c v 4 (qs.drop f).length (rowC pvC (qs.drop f)) := by
  rw [rowC_drop pvC_len, List.take_of_length_le (by rw [rowC_len pvC_len, List.length_drop]; omega)] at h
  rw [List.length_drop]; exact h
theorem amiss_nx {qs : List PV} {i : Nat} {q : PV} (h : ∀ j : Nat, j < i → ∀ q, qs[j]? = some q → ¬ amiss qs j q) (hq : qs[i]? = some q) (hn : ¬ amiss qs i q) : ∀ j : Nat, j < i + 1 → ∀ q, qs[j]? = some q → ¬ amiss qs j q := by
  intro j hj r hr
  rcases Nat.lt_succ_iff_lt_or_eq.1 hj with h1 | rfl
  · exact h j h1 r hr
  · rw [hq] at hr; cases hr; exact hn
theorem from_nx {qs : List PV} {i : Nat} {q : PV} (hq : qs[i]? = some q) : fromP ((qs.take (i + 1)).map PV.pt) = if isBase q.pt = true then some i else fromP ((qs.take i).map PV.pt) := by
  have hi := (List.getElem?_eq_some_iff.1 hq).1
  have he := (List.getElem?_eq_some_iff.1 hq).2
  rw [List.take_succ_eq_append_getElem hi, he, List.map_append, List.map_singleton, fromP_snoc, List.length_map, List.length_take, Nat.min_eq_left (by omega)]
def recN (qs : List PV) : Nat := (qs.map PV.recs).flatten.length
theorem recN_drop (qs : List PV) (f : Nat) : recN (qs.drop f) ≤ recN qs := by
  unfold recN
  conv => rhs; rw [← List.take_append_drop f qs]
  rw [List.map_append, List.flatten_append, List.length_append]; omega
theorem do_back {w0 w : World} {z : Zone} {F : List Nat} {o : List Own} {r : List Own} {a b : Own} (e : o = [a, b]) (h : Hp w0 w z F (.grp o :: r)) : Hp w0 w z F (a :: b :: r) := by
  subst e
  exact h.open_
theorem recs_len {qs : List PV} {j : Nat} {q : PV} (h : qs[j]? = some q) {k : Nat} (hk : k ≤ q.rs.length) : (recsN qs j ++ q.recs.take k).length ≤ recN qs := by
  obtain ⟨M, e⟩ := recsN_split h k
  unfold recN
  rw [e]
  simp only [List.length_append]; omega
theorem rcOk_dl {r : Rc} (h : RcOk r) : r.d.length ≤ 65536 := by
  rcases h.k with h | h
  · exact h.2
  · rw [h.2.2]; simp
theorem recs_ok {c : Zone} {qs : List PV} (h : ∀ q ∈ qs, PvOk c q) {j : Nat} {q : PV} (hq : qs[j]? = some q) (k : Nat) : ∀ r ∈ recsN qs j ++ q.recs.take k, RcOk r := by
  intro r hr
  obtain ⟨M, e⟩ := recsN_split hq k
  have : r ∈ (qs.map PV.recs).flatten := by rw [e]; exact List.mem_append_left _ hr
  obtain ⟨l, hl, hr2⟩ := List.mem_flatten.1 this
  obtain ⟨x, hx, rfl⟩ := List.mem_map.1 hl
  obtain ⟨y, hy, rfl⟩ := List.mem_map.1 hr2
  exact ((h x hx).ok y hy).2

theorem LRead_ct (g db : Nat) (fi lo : Int) (bad vf : Value) (qs : List PV) (pl : Pl) (Zp : Zone) (w : World) (hM : Mine w [lgO g db Cn.zero (.slice none 0 0) fi lo bad, plO pl]) (hZ : Zp.le (off w (blksOf [lgO g db Cn.zero (.slice none 0 0) fi lo bad, plO pl]))) (hF : Row (off w (blksOf [lgO g db Cn.zero (.slice none 0 0) fi lo bad, plO pl])) vf 4 qs.length (rowC pvC qs)) (hP0 : ∀ q ∈ qs, PvOk Zp q) (hn : qs.length ≤ 1000) (hrs : recN qs ≤ 1000000) :
    Fun Tryz.prog 42 [.pointer (some ⟨g, 0, none⟩), vf] w fun v w' => (readL (qs.map PV.pt) = none ∧ v = .tuple #[.int .i64 0, errV 90] ∧ Turn w w' [lgO g db Cn.zero (.slice none 0 0) fi lo bad, plO pl] []) ∨
      (∃ i c2 es2 ve2 pl2, readL (qs.map PV.pt) = some (i, c2) ∧ v = .tuple #[.int .i64 ((i : Nat) : Int), .nilIface] ∧ CnR pl2 c2 es2 ve2 ∧ Turn w w' [lgO g db Cn.zero (.slice none 0 0) fi lo bad, plO pl] [lgO g db c2 ve2 fi lo bad, plO pl2]) := by
 obtain ⟨Af0, cf, rfl, hf1, hf2⟩ := hF.form
 have hP : ∀ q ∈ qs, PvOk (off w (blksOf [lgO g db Cn.zero (.slice none 0 0) fi lo bad, plO pl])) q := fun q hq => (hP0 q hq).mono hZ
 refine fun_of_sw Tryz.func42 rfl 99 rfl rfl ?_
 have hH := Hp.start_mine hM
 replace hH : Hp w w _ _ [.blk g 96 [Pp db 0, .int .i64 0, .int .i64 0, .int .i64 0, .int .i64 0, .slice none 0 0, .int .i64 fi, .int .i64 lo, bad], plO pl] := hH
 refine sw_sr <| Go0 2 <| Dn <| sw_sr <| Go1 1 6 (.int .i64 (-1)) <| Dn <| sw_seq <| sw_sr <| Go1 1 13 (.slice Af0 qs.length cf) <| Gq rfl (Ln (e := 106) rfl) <| Go1 1 15 (.int .i64 0) <| Dn <| sw_block <| Lp (γ := Nat × Int) hH (fun (i, fr) => [(0, Pp g 0), (1, .slice Af0 qs.length cf), (6, .int .i64 fr), (13, .slice Af0 qs.length cf), (14, Ni qs.length), (15, Ni i)]) (fun (i, fr) w_ H_ => (i ≤ qs.length) ∧ (∀ j : Nat, j < i → ∀ q, qs[j]? = some q → ¬ amiss qs j q) ∧ (fr = fromV (fromP ((qs.take i).map PV.pt))) ∧ H_ [.blk g 96 [Pp db 0, .int .i64 0, .int .i64 0, .int .i64 0, .int .i64 0, .slice none 0 0, .int .i64 fi, .int .i64 lo, bad], plO pl]) (fun (i, fr) => qs.length - i) (0, (-1)) ?_ ?_
 · exact ⟨by omega, fun j hj => absurd hj (by omega), rfl, hH⟩
 clear hH
 rintro ⟨i, fr⟩ w1 ⟨hi, hall, hfr, hH⟩
 refine swk [(0, Pp g 0), (1, .slice Af0 qs.length cf), (6, .int .i64 fr), (13, .slice Af0 qs.length cf), (14, Ni qs.length), (15, Ni i)] <| sw_sr <| Go1 1 16 (.bool (decide ((i : Int) < ((qs.length : Nat) : Int)))) <| Dn <| sw_seq <| If rfl (fun hc1 => ?_) (fun hc1 => ?_)
 refine Sk <| sw_seq <| sw_block ?_
 obtain ⟨q, hq⟩ : ∃ q, qs[i]? = some q := ⟨_, List.getElem?_eq_getElem (by omega)⟩
 have hqok := hP q (List.mem_of_getElem? hq)
 have qrow := hqok.row
 have hqk := hqok.k
 have hfx := from_nx hq
 refine sw_sr ?_
 obtain ⟨p2, hi4, hp3⟩ := hF.idx i (by omega) (by decide)
 refine Go1 1 17 (Ni i) <| Gq rfl (Ix (e := 106) 4 rfl rfl hi4) <| Gq rfl (rd_loadZA (by kernel_rfl) hH hp3 rfl 0 rfl [Ni q.k, Ni q.whole, .bool q.more, .slice q.A q.rs.length q.cap] (by kernel_rfl) (rowC_all pvC_len hq 0 _ rfl)) <| gl_st (Alc [.int .i64 0, .int .i64 0, .bool false, .slice none 0 0] rfl hH ?_)
 clear hH; intro b5 w6 hH
 refine Go1 1 7 (Ni i) <| gl_st (Ka 2 [Ni q.k, Ni q.whole, .bool q.more, .slice q.A q.rs.length q.cap] [Ni q.k, Ni q.whole, .bool q.more, .slice q.A q.rs.length q.cap] rfl hH rfl rfl ?_)
 clear hH; intro w7 hH
 refine Dn <| sw_seq <| Cu (γ := Bool) hH (fun bd => [(0, Pp g 0), (1, .slice Af0 qs.length cf), (6, .int .i64 fr), (7, Ni i), (8, Pp b5 0), (13, .slice Af0 qs.length cf), (14, Ni qs.length), (15, Ni i), (49, .bool bd)]) (fun bd w_ H_ => (bd = true ↔ amiss qs i q) ∧ H_ [.blk g 96 [Pp db 0, .int .i64 0, .int .i64 0, .int .i64 0, .int .i64 0, .slice none 0 0, .int .i64 fi, .int .i64 lo, bad], plO pl, .blk b5 106 [Ni q.k, Ni q.whole, .bool q.more, .slice q.A q.rs.length q.cap]]) ?_ ?_
 ·
  refine Dr hH (slk (slk (slk sln))) ?_
  clear hH; intro w8 hH hS9
  refine Gp1 1 [0] 20 (Pp b5 0) hS9 <| Dq 1 rfl (fun _ hS => (Lk 2 hS rfl rfl rfl)) hS9 <| Gp1 2 [2,3] 23 (.bool (decide (((q.k : Nat) : Int) > (100000000 : Int)))) hS9 <| Di 23 rfl (fun hg2 => ?_) (fun hg2 => ?_)
  refine Gp1 26 [4,5,6,7,8,9,10,11,12,13,14,15,16,17,18,19,20,21,22,23,24,25,26,27,28,29] 49 (.bool true) hS9 <| gdn [(0, Pp g 0), (1, .slice Af0 qs.length cf), (6, .int .i64 fr), (7, Ni i), (8, Pp b5 0), (13, .slice Af0 qs.length cf), (14, Ni qs.length), (15, Ni i), (49, .bool true)] <| Ce (true) ?_
  exact ⟨by
    unfold amiss
    first
    | exact ⟨fun _ => .inl (by omega), fun _ => rfl⟩
    | exact ⟨fun _ => .inr (.inl ⟨by omega, by omega⟩), fun _ => rfl⟩
    | exact ⟨fun h => Bool.noConfusion h, fun h => by rcases h with h | h | h <;> first | (exfalso; omega) | exact absurd h.1 (by rw [hmf]; simp)⟩
    | exact ⟨fun h => .inr (.inr ⟨hmt, by have := of_decide_eq_true h; omega⟩), fun h => by rcases h with h | h | h <;> first | (exfalso; omega) | exact decide_eq_true (by omega)⟩, (hH.sb (slk (slk (slk sln))))⟩
  refine Gp1 3 [4,5,6] 26 (.bool (decide ((i : Int) > (0 : Int)))) hS9 <| Di 26 rfl (fun hg3 => ?_) (fun hg3 => ?_)
  obtain ⟨q0, hq0⟩ : ∃ x, qs[i - 1]? = some x := ⟨_, List.getElem?_eq_getElem (by omega)⟩
  have hkp : kPrev qs i = q0.k := by unfold kPrev; rw [hq0]; rfl
  have hq0k := (hP q0 (List.mem_of_getElem? hq0)).k
  refine Dw2 3 [7,8,9] 29 ((i : Int) - 1) ((i - 1 : Nat) : Int) 27 (.slice Af0 qs.length cf) 28 (Ni i) hS9 ?_
  obtain ⟨p9, hi11, hp10⟩ := hF.idx (i - 1) (by omega) (by decide)
  refine Dq 10 rfl (fun _ hS => (Ix (e := 106) 4 rfl rfl hi11)) hS9 <| Gp1 1 [11] 31 (.pointer (some p9)) hS9 <| Dq 12 rfl (fun _ hS => (rd_load (by kernel_rfl) rfl (hS.zin _ _ (hp10 0 _ (by decide) (rowC_at pvC_len hq0 0 (by decide) rfl))))) hS9 <| Dw0 1 [13] 33 (((q0.k : Nat) : Int) + 1) ((q0.k + 1 : Nat) : Int) hS9 <| Gp1 1 [14] 34 (Pp b5 0) hS9 <| Dq 15 rfl (fun _ hS => (Lk 2 hS rfl rfl rfl)) hS9 <| gdk [(0, Pp g 0), (1, .slice Af0 qs.length cf), (6, .int .i64 fr), (7, Ni i), (8, Pp b5 0), (13, .slice Af0 qs.length cf), (14, Ni qs.length), (15, Ni i), (23, .bool false), (26, .bool true), (33, Ni (q0.k + 1)), (35, Ni q.k)] <| Gp1 4 [16,17,18,19] 39 (.bool (((q0.k + 1 : Nat) : Int) != ((q.k : Nat) : Int))) hS9 <| Di 39 rfl (fun hg4 => ?_) (fun hg4 => ?_)
  refine Gp1 10 [20,21,22,23,24,25,26,27,28,29] 49 (.bool true) hS9 <| gdn [(0, Pp g 0), (1, .slice Af0 qs.length cf), (6, .int .i64 fr), (7, Ni i), (8, Pp b5 0), (13, .slice Af0 qs.length cf), (14, Ni qs.length), (15, Ni i), (49, .bool true)] <| Ce (true) ?_
  exact ⟨by
    unfold amiss
    first
    | exact ⟨fun _ => .inl (by omega), fun _ => rfl⟩
    | exact ⟨fun _ => .inr (.inl ⟨by omega, by omega⟩), fun _ => rfl⟩
    | exact ⟨fun h => Bool.noConfusion h, fun h => by rcases h with h | h | h <;> first | (exfalso; omega) | exact absurd h.1 (by rw [hmf]; simp)⟩
    | exact ⟨fun h => .inr (.inr ⟨hmt, by have := of_decide_eq_true h; omega⟩), fun h => by rcases h with h | h | h <;> first | (exfalso; omega) | exact decide_eq_true (by omega)⟩, (hH.sb (slk (slk (slk sln))))⟩
  refine Gp1 1 [20] 40 (Pp b5 2) hS9 <| Dq 21 rfl (fun _ hS => (Lk 2 hS rfl rfl rfl)) hS9 <| Gp1 1 [22] 42 (.bool q.more) hS9 <| Di 42 rfl (fun hg5 => ?_) (fun hg5 => ?_)
  have hmt := hg5
  refine Dw1 2 [23,24] 44 ((i : Int) + 1) ((i + 1 : Nat) : Int) 43 (Ni i) hS9 <| Gp1 1 [25] 45 (.slice Af0 qs.length cf) hS9 <| Dq 26 rfl (fun _ hS => (Ln (e := 106) rfl)) hS9 <| Gp1 3 [27,28,29] 49 (.bool (decide (((i + 1 : Nat) : Int) < ((qs.length : Nat) : Int)))) hS9 <| gdn [(0, Pp g 0), (1, .slice Af0 qs.length cf), (6, .int .i64 fr), (7, Ni i), (8, Pp b5 0), (13, .slice Af0 qs.length cf), (14, Ni qs.length), (15, Ni i), (49, .bool (decide (((i + 1 : Nat) : Int) < ((qs.length : Nat) : Int))))] <| Ce (decide (((i + 1 : Nat) : Int) < ((qs.length : Nat) : Int))) ?_
  exact ⟨by
    unfold amiss
    first
    | exact ⟨fun _ => .inl (by omega), fun _ => rfl⟩
    | exact ⟨fun _ => .inr (.inl ⟨by omega, by omega⟩), fun _ => rfl⟩
    | exact ⟨fun h => Bool.noConfusion h, fun h => by rcases h with h | h | h <;> first | (exfalso; omega) | exact absurd h.1 (by rw [hmf]; simp)⟩
    | exact ⟨fun h => .inr (.inr ⟨hmt, by have := of_decide_eq_true h; omega⟩), fun h => by rcases h with h | h | h <;> first | (exfalso; omega) | exact decide_eq_true (by omega)⟩, (hH.sb (slk (slk (slk sln))))⟩
  have hmf := hg5
  refine Gp1 7 [23,24,25,26,27,28,29] 49 (.bool false) hS9 <| gdn [(0, Pp g 0), (1, .slice Af0 qs.length cf), (6, .int .i64 fr), (7, Ni i), (8, Pp b5 0), (13, .slice Af0 qs.length cf), (14, Ni qs.length), (15, Ni i), (49, .bool false)] <| Ce (false) ?_
  exact ⟨by
    unfold amiss
    first
    | exact ⟨fun _ => .inl (by omega), fun _ => rfl⟩
    | exact ⟨fun _ => .inr (.inl ⟨by omega, by omega⟩), fun _ => rfl⟩
    | exact ⟨fun h => Bool.noConfusion h, fun h => by rcases h with h | h | h <;> first | (exfalso; omega) | exact absurd h.1 (by rw [hmf]; simp)⟩
    | exact ⟨fun h => .inr (.inr ⟨hmt, by have := of_decide_eq_true h; omega⟩), fun h => by rcases h with h | h | h <;> first | (exfalso; omega) | exact decide_eq_true (by omega)⟩, (hH.sb (slk (slk (slk sln))))⟩
  refine Gp2 14 [7,8,9,10,11,12,13,14,15,16,17,18,19,20] 39 (.bool false) 40 (Pp b5 2) hS9 <| Dq 21 rfl (fun _ hS => (Lk 2 hS rfl rfl rfl)) hS9 <| Gp1 1 [22] 42 (.bool q.more) hS9 <| Di 42 rfl (fun hg6 => ?_) (fun hg6 => ?_)
  have hmt := hg6
  refine Dw1 2 [23,24] 44 ((i : Int) + 1) ((i + 1 : Nat) : Int) 43 (Ni i) hS9 <| Gp1 1 [25] 45 (.slice Af0 qs.length cf) hS9 <| Dq 26 rfl (fun _ hS => (Ln (e := 106) rfl)) hS9 <| Gp1 3 [27,28,29] 49 (.bool (decide (((i + 1 : Nat) : Int) < ((qs.length : Nat) : Int)))) hS9 <| gdn [(0, Pp g 0), (1, .slice Af0 qs.length cf), (6, .int .i64 fr), (7, Ni i), (8, Pp b5 0), (13, .slice Af0 qs.length cf), (14, Ni qs.length), (15, Ni i), (49, .bool (decide (((i + 1 : Nat) : Int) < ((qs.length : Nat) : Int))))] <| Ce (decide (((i + 1 : Nat) : Int) < ((qs.length : Nat) : Int))) ?_
  exact ⟨by
    unfold amiss
    first
    | exact ⟨fun _ => .inl (by omega), fun _ => rfl⟩
    | exact ⟨fun _ => .inr (.inl ⟨by omega, by omega⟩), fun _ => rfl⟩
    | exact ⟨fun h => Bool.noConfusion h, fun h => by rcases h with h | h | h <;> first | (exfalso; omega) | exact absurd h.1 (by rw [hmf]; simp)⟩
    | exact ⟨fun h => .inr (.inr ⟨hmt, by have := of_decide_eq_true h; omega⟩), fun h => by rcases h with h | h | h <;> first | (exfalso; omega) | exact decide_eq_true (by omega)⟩, (hH.sb (slk (slk (slk sln))))⟩
  have hmf := hg6
  refine Gp1 7 [23,24,25,26,27,28,29] 49 (.bool false) hS9 <| gdn [(0, Pp g 0), (1, .slice Af0 qs.length cf), (6, .int .i64 fr), (7, Ni i), (8, Pp b5 0), (13, .slice Af0 qs.length cf), (14, Ni qs.length), (15, Ni i), (49, .bool false)] <| Ce (false) ?_
  exact ⟨by
    unfold amiss
    first
    | exact ⟨fun _ => .inl (by omega), fun _ => rfl⟩
    | exact ⟨fun _ => .inr (.inl ⟨by omega, by omega⟩), fun _ => rfl⟩
    | exact ⟨fun h => Bool.noConfusion h, fun h => by rcases h with h | h | h <;> first | (exfalso; omega) | exact absurd h.1 (by rw [hmf]; simp)⟩
    | exact ⟨fun h => .inr (.inr ⟨hmt, by have := of_decide_eq_true h; omega⟩), fun h => by rcases h with h | h | h <;> first | (exfalso; omega) | exact decide_eq_true (by omega)⟩, (hH.sb (slk (slk (slk sln))))⟩
 clear hH
 rintro bd w12 ⟨hbd, hH⟩
 refine swk [(0, Pp g 0), (1, .slice Af0 qs.length cf), (6, .int .i64 fr), (7, Ni i), (8, Pp b5 0), (13, .slice Af0 qs.length cf), (14, Ni qs.length), (15, Ni i), (49, .bool bd)] <| If rfl (fun hc7 => ?_) (fun hc7 => ?_)
 have hbt := hc7
 refine sw_sr <| Go2 3 4 (.int .i64 0) 5 (.iface 38 (.int .i64 90)) <| Dn <| Rt2 rfl rfl rfl ?_
 exact .inl ⟨by unfold readL; rw [if_neg (okP_not hq (hbd.1 hbt))], rfl, (hH.sb (List.nil_sublist _)).turned⟩
 have hfine : ¬ amiss qs i q := fun h => by have := hbd.2 h; rw [this] at hc7; cases hc7
 refine Sk <| Cu (γ := Bool) hH (fun ib => [(0, Pp g 0), (1, .slice Af0 qs.length cf), (6, .int .i64 fr), (7, Ni i), (13, .slice Af0 qs.length cf), (14, Ni qs.length), (15, Ni i), (62, .bool ib)]) (fun ib w_ H_ => (ib = isBase q.pt) ∧ H_ [.blk g 96 [Pp db 0, .int .i64 0, .int .i64 0, .int .i64 0, .int .i64 0, .slice none 0 0, .int .i64 fi, .int .i64 lo, bad], plO pl, .blk b5 106 [Ni q.k, Ni q.whole, .bool q.more, .slice q.A q.rs.length q.cap]]) ?_ ?_
 ·
  refine sw_region <| Go1 1 51 (Pp b5 3) <| Gq rfl (Lk 2 hH rfl rfl rfl) <| Gq rfl (Ln (e := 113) rfl) <| Go1 2 55 (.bool (decide (((q.rs.length : Nat) : Int) > (0 : Int)))) <| Gi 55 rfl (fun hg8 => ?_) (fun hg8 => ?_)
  obtain ⟨r0, hr0⟩ : ∃ x, q.rs[0]? = some x := ⟨_, List.getElem?_eq_getElem (by omega)⟩
  obtain ⟨⟨r0, vr0⟩, hr0⟩ : ∃ x, q.rs[0]? = some x := ⟨_, hr0⟩
  obtain ⟨Ad, cd, hvr, _, _⟩ := (hqok.ok _ (List.mem_of_getElem? hr0)).1.row.form
  simp only at hvr
  subst hvr
  refine Go1 1 56 (Pp b5 3) <| Gq rfl (Lk 2 hH rfl rfl rfl) ?_
  obtain ⟨p13, hi15, hp14⟩ := qrow.idx 0 (by omega) (by decide)
  refine Gq rfl (Ix (e := 113) 5 rfl rfl hi15) <| Go1 1 59 (.pointer (some p13)) <| Gq rfl (rd_load (by kernel_rfl) rfl (hH.zin _ _ (hp14 0 _ (by decide) (rowC_at rcC_len hr0 0 (by decide) rfl)))) <| Go1 2 62 (.bool (((r0.k : Nat) : Int) == (3 : Int))) <| Dd <| Ce (((r0.k : Nat) : Int) == (3 : Int)) ?_
  exact ⟨by rw [isBase_pt]; first | (rw [hr0, Option.map_some, Bool.eq_iff_iff, decide_eq_true_eq, beq_iff_eq, Option.some.injEq]; try simp only; omega) | (rw [List.getElem?_eq_none (by omega)]; rfl), (hH.sb (slk (slk (slk sln))))⟩
  have hrn : q.rs.length = 0 := by omega
  refine Go1 7 62 (.bool false) <| Dd <| Ce (false) ?_
  exact ⟨by rw [isBase_pt]; first | (rw [hr0, Option.map_some, Bool.eq_iff_iff, decide_eq_true_eq, beq_iff_eq, Option.some.injEq]; try simp only; omega) | (rw [List.getElem?_eq_none (by omega)]; rfl), (hH.sb (slk (slk (slk sln))))⟩
 clear hH
 rintro ib w16 ⟨hib, hH⟩
 refine swk [(0, Pp g 0), (1, .slice Af0 qs.length cf), (6, .int .i64 fr), (7, Ni i), (13, .slice Af0 qs.length cf), (14, Ni qs.length), (15, Ni i), (62, .bool ib)] <| If rfl (fun hc9 => ?_) (fun hc9 => ?_)
 have hisb : isBase q.pt = true := by rw [← hib]; exact hc9
 refine sw_region <| Go1 2 6 (Ni i) <| Dd <| bkN <| sw_next <| sw_region <| Gw0 1 64 ((i : Int) + 1) ((i + 1 : Nat) : Int) <| Go1 1 15 (Ni (i + 1)) <| Dd <| rnd_end (g := (i, fr)) (i + 1, ((i : Nat) : Int)) (by kernel_rfl) ?_ ?_
 replace hH := (hH.sb (slk (slk sln))).n2
 · exact ⟨by omega, amiss_nx hall hq hfine, by rw [hfx, if_pos hisb]; rfl, hH⟩
 · show qs.length - (i + 1) < qs.length - i; omega
 have hisb : ¬ isBase q.pt = true := by rw [← hib, hc9]; simp
 refine sw_skip <| bkN <| sw_next <| sw_region <| Gw0 1 64 ((i : Int) + 1) ((i + 1 : Nat) : Int) <| Go1 1 15 (Ni (i + 1)) <| Dd <| rnd_end (g := (i, fr)) (i + 1, fr) (by kernel_rfl) ?_ ?_
 replace hH := (hH.sb (slk (slk sln))).n2
 · exact ⟨by omega, amiss_nx hall hq hfine, by rw [hfx, if_neg hisb]; exact hfr, hH⟩
 · show qs.length - (i + 1) < qs.length - i; omega
 refine sw_exit <| thX <| thX <| bkH <| sw_next <| sw_seq ?_
 have hie : qs.length ≤ i := by omega
 rw [List.take_of_length_le hie] at hfr
 have hokP := okP_all (fun j q hq => hall j (Nat.lt_of_lt_of_le (List.getElem?_eq_some_iff.1 hq).1 hie) q hq)
 refine sw_sr <| Go1 2 66 (.bool (decide ((fr : Int) < (0 : Int)))) <| Dn <| If rfl (fun hc10 => ?_) (fun hc10 => ?_)
 refine sw_sr <| Go2 3 4 (.int .i64 0) 5 (.iface 38 (.int .i64 90)) <| Dn <| Rt2 rfl rfl rfl ?_
 have hfn : fromP (qs.map PV.pt) = none := by
   cases hx : fromP (qs.map PV.pt) with
   | none => rfl
   | some f => rw [hx] at hfr; simp only [fromV] at hfr; omega
 exact .inl ⟨by unfold readL; rw [if_pos hokP, hfn]; rfl, rfl, (hH.sb (List.nil_sublist _)).turned⟩
 refine Sk <| sw_seq ?_
 obtain ⟨f, hf⟩ : ∃ f, fromP (qs.map PV.pt) = some f := by
   cases hx : fromP (qs.map PV.pt) with
   | none => rw [hx] at hfr; simp only [fromV] at hfr; omega
   | some f => exact ⟨f, rfl⟩
 rw [hf] at hfr
 obtain rfl : fr = ((f : Nat) : Int) := hfr
 obtain ⟨b0, hb0, hbase⟩ := fromP_at hf
 rw [List.getElem?_map] at hb0
 obtain ⟨q9, hq9, rfl⟩ := Option.map_eq_some_iff.1 hb0
 have hfl := (List.getElem?_eq_some_iff.1 hq9).1
 have hd0 : (qs.drop f)[0]? = some q9 := by rw [List.getElem?_drop]; exact hq9
 have hrl := readL_pv hokP hf
 have hPd : ∀ q ∈ qs.drop f, PvOk _ q := fun q hq => hP q (List.mem_of_mem_drop hq)
 have hdl : (qs.drop f).length = qs.length - f := List.length_drop ..
 have hrn2 := Nat.le_trans (recN_drop qs f) hrs
 refine sw_sr ?_
 obtain ⟨A9, hc9, hv9⟩ := hF.cut (by decide) f qs.length (by omega) (by omega)
 have hR9 := pv_drop (by omega) hv9
 refine Go3 2 6 (Ni f) 68 (.slice Af0 qs.length cf) 69 (Ni f) <| Gq rfl (rd_cut (e := 106) (m := 4) (by kernel_rfl) (by kernel_rfl) rfl (.inr ⟨_, _, rfl, rfl⟩) (.inl ⟨rfl, rfl⟩) hc9) <| Gq rfl (Ln (e := 106) rfl) <| Go1 1 72 (.int .i64 0) <| Dn <| sw_block ?_
 replace hH := (hH.sb (slk (slk sln))).n2
 refine Lp (γ := Nat × Cn × EQ × Option Addr × Nat × Pl) hH (fun (j, cx, es, Ae, ce, pk) => [(0, Pp g 0), (6, Ni f), (70, .slice A9 (qs.length - f) (cf - f)), (71, Ni (qs.length - f)), (72, Ni j)]) (fun (j, cx, es, Ae, ce, pk) w_ H_ => (j ≤ (qs.drop f).length) ∧ (doAll Cn.zero (recsN (qs.drop f) j) true = some cx) ∧ (CnR pk cx es (.slice Ae es.length ce)) ∧ H_ [.blk g 96 [Pp db 0, Ni cx.term, Ni cx.vote, Ni cx.ix, Ni cx.ah, .slice Ae es.length ce, .int .i64 fi, .int .i64 lo, bad], plO pk]) (fun (j, cx, es, Ae, ce, pk) => (qs.drop f).length - j) (0, Cn.zero, [], none, 0, pl) ?_ ?_
 · exact ⟨by omega, rfl, CnR.nil _ _ rfl, hH⟩
 clear hH
 rintro ⟨j, cx, es, Ae, ce, pk⟩ w17 ⟨hj, hdo, hL, hH⟩
 refine swk [(0, Pp g 0), (6, Ni f), (70, .slice A9 (qs.length - f) (cf - f)), (71, Ni (qs.length - f)), (72, Ni j)] <| sw_sr <| Go1 1 73 (.bool (decide ((j : Int) < ((qs.length - f : Nat) : Int)))) <| Dn <| sw_seq <| If rfl (fun hc11 => ?_) (fun hc11 => ?_)
 refine Sk <| sw_seq <| sw_block ?_
 obtain ⟨q, hq⟩ : ∃ q, (qs.drop f)[j]? = some q := ⟨_, List.getElem?_eq_getElem (by omega)⟩
 have hqok := hPd q (List.mem_of_getElem? hq)
 have qrow := hqok.row
 refine sw_sr ?_
 obtain ⟨p18, hi20, hp19⟩ := hR9.idx j (by omega) (by decide)
 refine Go1 1 74 (Ni j) <| Gq rfl (Ix (e := 106) 4 rfl rfl hi20) <| Gq rfl (rd_loadZA (by kernel_rfl) hH hp19 rfl 0 rfl [Ni q.k, Ni q.whole, .bool q.more, .slice q.A q.rs.length q.cap] (by kernel_rfl) (rowC_all pvC_len hq 0 _ rfl)) <| gl_st (Alc [.int .i64 0, .int .i64 0, .bool false, .slice none 0 0] rfl hH ?_)
 clear hH; intro b21 w22 hH
 refine Go1 1 9 (Ni j) <| gl_st (Ka 2 [Ni q.k, Ni q.whole, .bool q.more, .slice q.A q.rs.length q.cap] [Ni q.k, Ni q.whole, .bool q.more, .slice q.A q.rs.length q.cap] rfl hH rfl rfl ?_)
 clear hH; intro w23 hH
 refine Dn <| sw_sr <| Go1 1 77 (Pp b21 3) <| Gq rfl (Lk 2 hH rfl rfl rfl) <| Gq rfl (Ln (e := 113) rfl) <| Go1 1 80 (.int .i64 0) <| Dn <| sw_block ?_
 replace hH := (hH.sb (slk (slk sln))).n2
 refine Lp (γ := Nat × Cn × EQ × Option Addr × Nat × Pl) hH (fun (k, cy, es2, Af, cf2, pm) => [(0, Pp g 0), (6, Ni f), (9, Ni j), (70, .slice A9 (qs.length - f) (cf - f)), (71, Ni (qs.length - f)), (72, Ni j), (78, .slice q.A q.rs.length q.cap), (79, Ni q.rs.length), (80, Ni k)]) (fun (k, cy, es2, Af, cf2, pm) w_ H_ => (k ≤ q.rs.length) ∧ (doAll Cn.zero (recsN (qs.drop f) j ++ q.recs.take k) true = some cy) ∧ (CnR pm cy es2 (.slice Af es2.length cf2)) ∧ H_ [.blk g 96 [Pp db 0, Ni cy.term, Ni cy.vote, Ni cy.ix, Ni cy.ah, .slice Af es2.length cf2, .int .i64 fi, .int .i64 lo, bad], plO pm]) (fun (k, cy, es2, Af, cf2, pm) => q.rs.length - k) (0, cx, es, Ae, ce, pk) ?_ ?_
 · exact ⟨by omega, by rw [List.take_zero, List.append_nil]; exact hdo, hL, hH⟩
 clear hH
 rintro ⟨k, cy, es2, Af, cf2, pm⟩ w24 ⟨hk, hdo2, hL2, hH⟩
 refine swk [(0, Pp g 0), (6, Ni f), (9, Ni j), (70, .slice A9 (qs.length - f) (cf - f)), (71, Ni (qs.length - f)), (72, Ni j), (78, .slice q.A q.rs.length q.cap), (79, Ni q.rs.length), (80, Ni k)] <| sw_sr <| Go1 1 81 (.bool (decide ((k : Int) < ((q.rs.length : Nat) : Int)))) <| Dn <| sw_seq <| If rfl (fun hc12 => ?_) (fun hc12 => ?_)
 refine Sk <| sw_seq <| sw_block ?_
 obtain ⟨⟨r, vr⟩, hr⟩ : ∃ x, q.rs[k]? = some x := ⟨_, List.getElem?_eq_getElem (by omega)⟩
 have hrok := hqok.ok _ (List.mem_of_getElem? hr)
 obtain ⟨Ad, cd, hvr, _, _⟩ := hrok.1.row.form
 simp only at hvr
 subst hvr
 have hemp := recsN_empty hd0 hbase hq (show k ≤ q.rs.length by omega)
 have hcn := cnOk_len (cnOk_all cnOk_zero (recs_ok hPd hq k) hdo2)
 have hel := doAll_len hdo2
 have hrl2 := recs_len hq (show k ≤ q.rs.length by omega)
 have hl2 := hL2.len
 have hrl3 := hrl2
 rw [List.length_append, show (q.recs.take k).length = k by unfold PV.recs; rw [List.length_take, List.length_map]; omega] at hrl3
 have hdl2 : r.d.length ≤ 65536 := rcOk_dl hrok.2
 simp only [show Cn.zero.es.length = 0 from rfl, Nat.zero_add] at hel
 refine sw_sr ?_
 obtain ⟨p25, hi27, hp26⟩ := qrow.idx k (by omega) (by decide)
 refine Go1 1 82 (Ni k) <| Gq rfl (Ix (e := 113) 5 rfl rfl hi27) <| Gq rfl (rd_loadZA (by kernel_rfl) hH hp26 rfl 0 rfl [Ni r.k, Ni r.a, Ni r.b, Ni r.c, .slice Ad r.d.length cd] (by kernel_rfl) (rowC_all rcC_len hr 0 _ rfl)) <| gl_st (Alc [.int .i64 0, .int .i64 0, .int .i64 0, .int .i64 0, .slice none 0 0] rfl hH ?_)
 clear hH; intro b28 w29 hH
 refine Go1 1 11 (Ni k) <| gl_st (Ka 2 [Ni r.k, Ni r.a, Ni r.b, Ni r.c, .slice Ad r.d.length cd] [Ni r.k, Ni r.a, Ni r.b, Ni r.c, .slice Ad r.d.length cd] rfl hH rfl rfl ?_)
 clear hH; intro w30 hH
 refine Dn <| sw_seq <| Dr hH (slc (slc (slk sln))) ?_
 clear hH; intro w31 hH hS9
 refine Gp1 3 [0,1,2] 87 (Pp g 1) hS9 <| Dq 3 rfl (fun _ hS => (La 0 [Ni r.k, Ni r.a, Ni r.b, Ni r.c, .slice Ad r.d.length cd] hS rfl rfl)) hS9 <| Dw2 3 [4,5,6] 91 ((j : Int) + (k : Int)) ((j + k : Nat) : Int) 89 (Ni j) 90 (Ni k) hS9 ?_
 replace hH : Hp w w31 _ _ ([_, _] ++ [_]) := hH
 refine Gp1 1 [7] 92 (.bool (((j + k : Nat) : Int) == (0 : Int))) hS9 <| gds 8 (Sc rfl rfl (Do_ct g db cy fi lo bad _ _ es2 pm r.k r.a r.b r.c r.d (((j + k : Nat) : Int) == (0 : Int)) _ hH.mine hL2 (hrok.1.mono hH.zoff) (by omega) (by omega) hrok.2.a hrok.2.b hrok.2.c (by omega)) ?_)
 rintro _ w32 ⟨bb, o2, rfl, hor, hF33⟩
 replace hH := hH.turns hF33
 replace hH := hH.n2
 have hbe : (((j + k : Nat) : Int) == (0 : Int)) = decide (j + k = 0) := by rw [Bool.eq_iff_iff, beq_iff_eq, decide_eq_true_eq]; omega
 rw [hbe] at hor
 refine Nl (hH.sb (slk sln)) fun hS9 => Gp1 1 [9] 94 (.bool (!bb)) hS9 <| gdn [(0, Pp g 0), (6, Ni f), (9, Ni j), (70, .slice A9 (qs.length - f) (cf - f)), (71, Ni (qs.length - f)), (72, Ni j), (78, .slice q.A q.rs.length q.cap), (79, Ni q.rs.length), (80, Ni k), (94, .bool (!bb))] <| sw_next <| If rfl (fun hc13 => ?_) (fun hc13 => ?_)
 have hbb : bb = false := by simpa using hc13
 refine sw_sr <| Go2 3 4 (.int .i64 0) 5 (.iface 38 (.int .i64 90)) <| Dn <| Rt2 rfl rfl rfl ?_
 have h1 := (hor.resolve_right (fun h => by obtain ⟨_, _, _, _, _, h2, _⟩ := h; rw [h2] at hbb; cases hbb)).1
 have hnn : doAll Cn.zero ((qs.drop f).map PV.recs).flatten true = none := by
   obtain ⟨M, hM⟩ := recsN_split hq (k + 1)
   rw [hM]
   refine doAll_none ?_ (by rw [recs_next hr]; simp)
   rw [recs_next hr, ← List.append_assoc, doAll_snoc, hdo2]
   simp only [Option.bind_some, Bool.true_and, hemp]; exact h1
 exact .inl ⟨by rw [hrl, hnn]; rfl, rfl, (hH.sb (List.nil_sublist _)).turned⟩
 have hbb : bb = true := by simpa using hc13
 refine sw_skip <| bkN <| sw_next ?_
 obtain ⟨c3, es3, ve3, pl3, h1, _, h4, ho2⟩ := hor.resolve_left (fun h => by rw [h.2] at hbb; cases hbb)
 replace hH := hH.fr2
 obtain ⟨A3, ce3, rfl, _, _⟩ := h4.row.form
 replace hH := do_back ho2 hH
 replace hH : Hp w w32 _ _ [.blk g 96 [Pp db 0, Ni c3.term, Ni c3.vote, Ni c3.ix, Ni c3.ah, .slice A3 es3.length ce3, .int .i64 fi, .int .i64 lo, bad], plO pl3, .blk b28 113 [Ni r.k, Ni r.a, Ni r.b, Ni r.c, .slice Ad r.d.length cd]] := hH
 refine sw_region <| Gw0 1 96 ((k : Int) + 1) ((k + 1 : Nat) : Int) <| Go1 1 80 (Ni (k + 1)) <| Dd <| rnd_end (g := (k, cy, es2, Af, cf2, pm)) (k + 1, c3, es3, A3, ce3, pl3) (by kernel_rfl) ?_ ?_
 replace hH := (hH.sb (slk (slk sln))).n2
 · exact ⟨by omega, by rw [recs_next hr, ← List.append_assoc, doAll_snoc, hdo2]; simp only [Option.bind_some, Bool.true_and, hemp]; exact h1, h4, hH⟩
 · show q.rs.length - (k + 1) < q.rs.length - k; omega
 refine sw_exit <| thX <| thX <| bkH <| bkN <| sw_next <| sw_region <| Gw0 1 97 ((j : Int) + 1) ((j + 1 : Nat) : Int) <| Go1 1 72 (Ni (j + 1)) <| Dd <| rnd_end (g := (j, cx, es, Ae, ce, pk)) (j + 1, cy, es2, Af, cf2, pm) (by kernel_rfl) ?_ ?_
 replace hH := (hH.sb (slk (slk sln))).n2
 · exact ⟨by omega, by rw [recsN_next hq]; have h8 := hdo2; rwa [List.take_of_length_le (by unfold PV.recs; rw [List.length_map]; omega)] at h8, hL2, hH⟩
 · show (qs.drop f).length - (j + 1) < (qs.drop f).length - j; omega
 refine sw_exit <| thX <| thX <| bkH <| sw_next <| sw_sr <| Go2 3 4 (Ni f) 5 (.nilIface) <| Dn <| Rt2 rfl rfl rfl ?_
 replace hH := (hH.sb (slk (slk sln))).n2
 have hje : (qs.drop f).length ≤ j := by omega
 rw [recsN_all _ hje] at hdo
 exact .inr ⟨f, cx, es, _, pk, by rw [hrl, hdo]; rfl, rfl, hL, hH.turned⟩
end Go.Proofs.YtajapgjemefoiaaGreatDoor
