/- How the arguments of a law of the second form are opened: what their bulk bounds. -/
import Derived.Test.YtjcchjgkkplamaaDoorLawG
import Derived.Test.YtjcchjgkkplamaaDoorIntV
set_option linter.unusedVariables false
set_option maxRecDepth 100000
namespace Go.Proofs.YtjcchjgkkplamaaDoor
open Go.ChangeShapes Go.WideShapes Go.RowKit Go.SW
section
variable {H : Type}
theorem bk_one (d : DataW H) : 1 ≤ Rows.uptoBulk d := by
  cases d with
  | lit l => cases l <;> simp [Rows.uptoBulk]
  | _ => simp [Rows.uptoBulk]
theorem bk_len : ∀ (l : List (DataW H)), l.length ≤ Rows.uptoBulkAll l
  | [] => Nat.zero_le _
  | d :: l => by
    have h1 := bk_one d
    have h2 := bk_len l
    simp only [Rows.uptoBulkAll, List.length_cons]; omega
theorem bk_slice (es sp : List (DataW H)) : es.length + 1 ≤ Rows.uptoBulk (.slice es sp) := by
  have := bk_len es
  simp only [Rows.uptoBulk]; omega
theorem bk_part : ∀ {l : List (DataW H)} {i : Nat} {d : DataW H}, l[i]? = some d → Rows.uptoBulk d ≤ Rows.uptoBulkAll l
  | [], i, d, h => by simp at h
  | x :: l, 0, d, h => by
    simp only [List.getElem?_cons_zero, Option.some.injEq] at h
    subst h
    simp only [Rows.uptoBulkAll]; omega
  | x :: l, i + 1, d, h => by
    have := bk_part (l := l) (i := i) (d := d) (by simpa using h)
    simp only [Rows.uptoBulkAll]; omega
theorem bk_str (b : List UInt8) : Rows.uptoBulk (DataW.lit (H := H) (.string b)) = b.length + 1 := by simp [Rows.uptoBulk]
variable {enc : TypeId × Value → H} {P : Program} {w : World} {base : Nat} {spare : Nat → Bool} {held : Bool}
theorem rb_len {c : Zone} {a : Option Addr} {n cap : Nat} {l : List UInt8} (h : RB c (.slice a n cap) l) : l.length = n := by
  obtain ⟨_, A, c2, e, _⟩ := h
  cases e; rfl
theorem open_bytesU {t e : TypeId} {fuel : Nat} {cs : List Value} {x : DataW H × List MemPlace} (ht : P.underlying t = some (.slice e)) (he : P.underlying e = some (.int .u8)) (hc : P.cellsOf e = 1) (hz : P.bytesOf e = 1)
    (h : DataW.trod enc P w base spare held fuel t cs = some x) : ∃ (v : Value) (l : List UInt8), cs = [v] ∧ RB w.cell? v l ∧ l.length + 1 ≤ Rows.uptoBulk x.1 := by
  obtain ⟨v, l, e1, hR, _⟩ := open_bytes ht he hc hz h
  refine ⟨v, l, e1, hR, ?_⟩
  rcases DataW.trod_slice ht h with ⟨rfl, rfl⟩ | ⟨a, len, cap, elems, rest, n, _, rfl, rfl, _, _, _, hlen, _, _, _⟩
  · cases e1
    rw [rb_len hR]; simp [Rows.uptoBulk]
  · cases e1
    rw [rb_len hR]
    have := bk_slice (elems.map (·.1)) (rest.map (·.1))
    simp only [List.length_map] at this
    simp only; omega
theorem open_numsU {t e : TypeId} {fuel : Nat} {cs : List Value} {x : DataW H × List MemPlace} (ht : P.underlying t = some (.slice e)) (he : P.underlying e = some (.int .i64)) (hc : P.cellsOf e = 1) (h : DataW.trod enc P w base spare held fuel t cs = some x) :
    ∃ (v : Value) (zs : List Int), cs = [v] ∧ Row w.cell? v 1 zs.length (iv zs) ∧ zs.length + 1 ≤ Rows.uptoBulk x.1 := by
  rcases open_ints ht he hc h with ⟨rfl, h0⟩ | ⟨a, len, cap, zs, rfl, _, hlc, hm, hlen, h0, hcell, hwf⟩
  · exact ⟨_, [], rfl, Row.nil _ _, bk_one _⟩
  · have hzl : len ≤ zs.length := by rw [hlen]; split <;> omega
    refine ⟨_, zs.take len, rfl, ⟨by simp [iv], some a, cap, by simp [Nat.min_eq_left hzl], by simp [Nat.min_eq_left hzl]; exact hlc, hm, fun j u hu => ⟨a, rfl, ?_⟩⟩, ?_⟩
    · have hj : j < len := by
        have := (List.getElem?_eq_some_iff.1 hu).1
        simpa [iv, Nat.min_eq_left hzl] using this
      rw [hcell j (by omega), ← hu]
      simp [iv, List.getElem?_take, hj, List.getD_eq_getElem?_getD, List.getElem?_eq_getElem (show j < zs.length by omega)]
    · rcases DataW.trod_slice ht h with ⟨e1, _⟩ | ⟨a2, len2, cap2, elems, rest, n, _, e1, rfl, _, _, _, hlen2, _, _, _⟩
      · cases e1
      · cases e1
        have := bk_slice (elems.map (·.1)) (rest.map (·.1))
        simp only [List.length_map] at this
        simp only [List.length_take]; omega
theorem open_strU {t : TypeId} {fuel : Nat} {cs : List Value} {x : DataW H × List MemPlace} (ht : P.underlying t = some .string) (h : DataW.trod enc P w base spare held fuel t cs = some x) : ∃ l : List UInt8, cs = [.string (bs l)] ∧ l.length + 1 = Rows.uptoBulk x.1 ∧ l.length ≤ maxLen := by
  obtain ⟨s, rfl, rfl, hs⟩ := DataW.trod_string ht h
  refine ⟨s.data.toList, rfl, ?_, by simpa using hs⟩
  simp [Rows.uptoBulk]
theorem open_rowU {t e : TypeId} {m fuel : Nat} {cs : List Value} {x : DataW H × List MemPlace} (ht : P.underlying t = some (.slice e)) (hm : P.cellsOf e = m) (h : DataW.trod enc P w base spare held fuel t cs = some x) :
    ∃ (v : Value) (L : List (List Value)) (ys : List (DataW H)), cs = [v] ∧ Row w.cell? v m L.length L.flatten ∧ (∀ c ∈ L, c.length = m) ∧ L.length = ys.length ∧
      (∀ (i : Nat) c, L[i]? = some c → ∃ fuel' y, ys[i]? = some y.1 ∧ DataW.trod enc P w base spare held fuel' e c = some y) ∧ Rows.uptoBulkAll ys + 1 ≤ Rows.uptoBulk x.1 := by
  rcases DataW.trod_slice ht h with ⟨rfl, rfl⟩ | ⟨a, len, cap, elems, rest, n, _, rfl, rfl, hb, hl, hmx, hlen, hel, hsp, hns⟩
  · exact ⟨_, [], [], rfl, Row.nil _ _, by simp, rfl, by simp, bk_one _⟩
  have hsome : ∀ i, i < len → ∃ c y, w.cells? base (a.add (i * m)) m = some c ∧ elems[i]? = some y ∧ DataW.trod enc P w base spare held n e c = some y := by
    intro i hi
    have h1 := hel i hi
    rw [hm, List.getElem?_eq_getElem (show i < elems.length by omega), Option.bind_eq_some_iff] at h1
    obtain ⟨c, h2, h3⟩ := h1
    exact ⟨c, _, h2, List.getElem?_eq_getElem (show i < elems.length by omega), h3⟩
  let L := (List.range len).map fun i => (w.cells? base (a.add (i * m)) m).getD []
  have hL : ∀ i, i < len → ∃ c y, L[i]? = some c ∧ w.cells? base (a.add (i * m)) m = some c ∧ elems[i]? = some y ∧ DataW.trod enc P w base spare held n e c = some y := by
    intro i hi
    obtain ⟨c, y, h1, h2, h3⟩ := hsome i hi
    exact ⟨c, y, by simp [L, hi, h1], h1, h2, h3⟩
  have hLl : L.length = len := by simp [L]
  have hlens : ∀ c ∈ L, c.length = m := fun c hc => by
    obtain ⟨i, hi⟩ := List.getElem?_of_mem hc
    have hil : i < len := by have := (List.getElem?_eq_some_iff.1 hi).1; omega
    obtain ⟨c', y, h0, h1, h2, h3⟩ := hL i hil
    rw [hi] at h0; cases h0
    exact (World.cells?_some h1).2.1
  refine ⟨_, L, elems.map (·.1), rfl, ⟨flat_len L m hlens, some a, cap, by rw [hLl], by omega, hmx, fun j u hu => ⟨a, rfl, ?_⟩⟩, hlens, by rw [hLl, List.length_map, hlen], fun i c hi => ?_, ?_⟩
  · have hj : j < L.length * m := by rw [← flat_len L m hlens]; exact (List.getElem?_eq_some_iff.1 hu).1
    have hm0 : 0 < m := by
      rcases Nat.eq_zero_or_pos m with h0 | h0
      · rw [h0] at hj; omega
      · exact h0
    have hi : j / m < len := by rw [← hLl]; exact (Nat.div_lt_iff_lt_mul hm0).2 hj
    have hq : j % m < m := Nat.mod_lt _ hm0
    obtain ⟨c, y, h0, h1, _, _⟩ := hL _ hi
    have hf := flat_get L m hlens (j / m) (j % m) c h0 hq
    have ej : j / m * m + j % m = j := by rw [Nat.mul_comm]; exact Nat.div_add_mod j m
    rw [ej, hu] at hf
    have h2 := (World.cells?_some h1).2.2 (j % m) hq
    rw [← hf, add_add, ej] at h2
    exact h2
  · have hil : i < len := by have := (List.getElem?_eq_some_iff.1 hi).1; omega
    obtain ⟨c', y, h0, h1, h2, h3⟩ := hL i hil
    rw [hi] at h0; cases h0
    exact ⟨n, y, by rw [List.getElem?_map, h2]; rfl, h3⟩
  · simp only [Rows.uptoBulk]; omega
/-- Elements, told by f; g is bounded by each one's bulk. -/
theorem rows_choose {β : Type} {f : β → List Value} {Q : β → Prop} {g : β → Nat} : ∀ (L : List (List Value)) (ys : List (DataW H)), L.length = ys.length → (∀ (i : Nat) c, L[i]? = some c → ∃ y b, ys[i]? = some y ∧ c = f b ∧ Q b ∧ g b ≤ Rows.uptoBulk y) →
    ∃ bs : List β, L = bs.map f ∧ (∀ b ∈ bs, Q b) ∧ (bs.map g).sum ≤ Rows.uptoBulkAll ys
  | [], ys, _, _ => ⟨[], rfl, by simp, Nat.zero_le _⟩
  | c :: L, [], h, _ => by simp at h
  | c :: L, y :: ys, hl, h => by
    obtain ⟨y0, b, e0, e1, hq, hg⟩ := h 0 c rfl
    cases e0
    obtain ⟨bs, e2, hQ, hs⟩ := rows_choose L ys (by simpa using hl) (fun i c hi => h (i + 1) c (by simpa using hi))
    refine ⟨b :: bs, by rw [e1, e2]; rfl, fun x hx => ?_, ?_⟩
    · rcases List.mem_cons.1 hx with rfl | hx
      · exact hq
      · exact hQ x hx
    · simp only [List.map_cons, List.sum_cons, Rows.uptoBulkAll]; omega
end
theorem uStr : Tryd.prog.underlying 9 = some .string := by kernel_rfl
theorem uIntsU : Tryd.prog.underlying 66 = some (.slice 3) := by kernel_rfl
theorem cStr : Tryd.prog.cellsOf 9 = 1 := by kernel_rfl
theorem cInts : Tryd.prog.cellsOf 66 = 1 := by kernel_rfl
theorem cBool : Tryd.prog.cellsOf 4 = 1 := by kernel_rfl
section
variable {H : Type} {enc : TypeId × Value → H} {w : World} {base : Nat} {spare : Nat → Bool} {held : Bool} {r : Reach} {b0 : Nat} {v : Value} {d : DataW H} {pl : List MemPlace}
theorem str_cell (hval : Value.okWide Tryd.prog w r b0 9 v) : v.cells.toList = [v] := by
  cases v with
  | agg cs => simp [Value.okWide, uStr, Cell.okWide, Cell.ok] at hval
  | _ => rfl
theorem open_strV (hval : Value.okWide Tryd.prog w r b0 9 v) (h : DataW.Trod enc Tryd.prog w base spare held 9 v d pl) : ∃ l : List UInt8, v = .string (bs l) ∧ l.length + 1 = Rows.uptoBulk d ∧ l.length ≤ maxLen := by
  obtain ⟨fuel, h⟩ := h
  obtain ⟨l, e, h1, h2⟩ := open_strU uStr h
  rw [str_cell hval] at e
  cases e
  exact ⟨l, rfl, h1, h2⟩
theorem open_bytesVU (hval : Value.okWide Tryd.prog w r b0 22 v) (h : DataW.Trod enc Tryd.prog w base spare held 22 v d pl) : ∃ l : List UInt8, RB w.cell? v l ∧ l.length + 1 ≤ Rows.uptoBulk d := by
  obtain ⟨fuel, h⟩ := h
  obtain ⟨v', l, e, h1, h2⟩ := open_bytesU uBytes uU8 cU8 zU8 h
  rw [one_cell uBytes hval] at e
  cases e
  exact ⟨l, h1, h2⟩
theorem open_numsVU (hval : Value.okWide Tryd.prog w r b0 66 v) (h : DataW.Trod enc Tryd.prog w base spare held 66 v d pl) : ∃ zs : List Int, Row w.cell? v 1 zs.length (iv zs) ∧ zs.length + 1 ≤ Rows.uptoBulk d := by
  obtain ⟨fuel, h⟩ := h
  obtain ⟨v', zs, e, h1, h2⟩ := open_numsU uIntsU uInt cInt h
  rw [one_cell uIntsU hval] at e
  cases e
  exact ⟨zs, h1, h2⟩
theorem int_cell (hval : Value.okWide Tryd.prog w r b0 3 v) : v.cells.toList = [v] := by
  cases v with
  | agg cs => simp [Value.okWide, uInt, Cell.okWide, Cell.ok] at hval
  | _ => rfl
theorem open_intV (hval : Value.okWide Tryd.prog w r b0 3 v) (h : DataW.Trod enc Tryd.prog w base spare held 3 v d pl) : ∃ n : Int, v = .int .i64 n ∧ -9223372036854775808 ≤ n ∧ n ≤ 9223372036854775807 := by
  obtain ⟨fuel, h⟩ := h
  obtain ⟨n, e, _, h1⟩ := DataW.trod_int uInt h
  rw [int_cell hval] at e
  cases e
  exact ⟨n, rfl, wf_i64 h1⟩
theorem bool_cell (hval : Value.okWide Tryd.prog w r b0 4 v) : v.cells.toList = [v] := by
  cases v with
  | agg cs => simp [Value.okWide, uBool, Cell.okWide, Cell.ok] at hval
  | _ => rfl
theorem open_boolV (hval : Value.okWide Tryd.prog w r b0 4 v) (h : DataW.Trod enc Tryd.prog w base spare held 4 v d pl) : ∃ b : Bool, v = .bool b := by
  obtain ⟨fuel, h⟩ := h
  obtain ⟨b, e, _⟩ := DataW.trod_bool uBool h
  rw [bool_cell hval] at e
  cases e
  exact ⟨b, rfl⟩
end
end Go.Proofs.YtjcchjgkkplamaaDoor
