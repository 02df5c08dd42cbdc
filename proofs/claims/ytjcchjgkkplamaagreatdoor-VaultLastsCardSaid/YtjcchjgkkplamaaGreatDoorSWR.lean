/- The calculus of SW: rules over what is owned. Plain theorems. -/
import Derived.Test.YtjcchjgkkplamaaGreatDoorSWH
import Derived.Maps.AppendAt
import Derived.Laws.CopyRow
import Derived.Laws.IdiomCopy
import Derived.Great.BuildSlice
import Derived.Lib.AppendZeros
set_option linter.unusedVariables false
set_option linter.unusedSimpArgs false
set_option maxRecDepth 100000
namespace Go.SW
open Go Go.RowKit
theorem add_add (a : Addr) (i j : Nat) : (a.add i).add j = a.add (i + j) := by
  unfold Addr.add
  by_cases h1 : i = 0 <;> by_cases h2 : j = 0 <;> simp [h1, h2, Nat.add_assoc]
theorem add_zero (a : Addr) : a.add 0 = a := rfl
theorem add_blk (g i j : Nat) : (⟨g, i, none⟩ : Addr).add j = ⟨g, i + j, none⟩ := by unfold Addr.add; split <;> simp_all
section
variable {P : Program} {n : Nat} {ops : Array Oper} {Q : Exit → Act → World → Prop} {i : Nat} {fr : Fr} {w w0 : World} {z : Zone} {F : List Nat} {os : List Own}
variable {K : Fr → World → Prop} {d : Option Tmp} {ty : TypeId} {pos : String} {aft : Array Edge} {g : Option (Nat × Bool)}

/-! ### 1. Boxes -/
theorem st_boxH {e : TypeId} {x : Operand} (hi : ops[i]? = some ⟨d, .box e x, ty, pos, aft, g⟩) (hg : guardV ops fr ⟨d, .box e x, ty, pos, aft, g⟩ = some true) (hs : (dok n d && knowns fr (.box e x) && true) = true)
    {cs : List Value} (hx : (ev fr x).cells = cs.toArray) (hH : Hp w0 w z F os) (h : ∀ b w', Hp w0 w' z F (os ++ [.blk b e cs]) → K (pf fr d (.pointer (some ⟨b, 0, none⟩))) w') : ST P n ops Q i K fr w := by
  refine st_box hi hg hs rfl (h _ _ ?_)
  rw [hx]
  exact hH.call (Fresh.alloc w cs e)
theorem st_allocH {e : TypeId} (hi : ops[i]? = some ⟨d, .alloc e, ty, pos, aft, g⟩) (hg : guardV ops fr ⟨d, .alloc e, ty, pos, aft, g⟩ = some true) (hs : (dok n d && true && true) = true)
    {cs : List Value} (hz : (zeroT P e).map Value.cells = some cs.toArray) (hH : Hp w0 w z F os) (h : ∀ b w', Hp w0 w' z F (os ++ [.blk b e cs]) → K (pf fr d (.pointer (some ⟨b, 0, none⟩))) w') : ST P n ops Q i K fr w := by
  obtain ⟨v, h1, h2⟩ := Option.map_eq_some_iff.1 hz
  refine st_alloc hi hg hs h1 (h _ _ ?_)
  rw [h2]
  exact hH.call (Fresh.alloc w cs e)
theorem Hp.blk_cell (hH : Hp w0 w z F os) (k : Nat) {b : Nat} {e : TypeId} {cs : List Value} (hk : os[k]? = some (.blk b e cs)) {o : Nat} {v : Value} (hv : cs[o]? = some v) : w.cell? ⟨b, o, none⟩ = some v := by
  have h : w.heap[b]? = some (.cells cs.toArray e (0, 0)) := hH.own _ (List.mem_of_getElem? hk)
  simp [World.cell?, h, hv]
theorem Hp.blk_free (hH : Hp w0 w z F os) (k : Nat) {b : Nat} {e : TypeId} {cs : List Value} (hk : os[k]? = some (.blk b e cs)) (o : Nat) : w.frozen? ⟨b, o, none⟩ = false := by
  have h : w.heap[b]? = some (.cells cs.toArray e (0, 0)) := hH.own _ (List.mem_of_getElem? hk)
  simp [World.frozen?, h]
theorem Hp.blk_set (hH : Hp w0 w z F os) (k : Nat) {b : Nat} {e : TypeId} {cs : List Value} (hk : os[k]? = some (.blk b e cs)) (o : Nat) (v : Value) : Hp w0 (w.setCell ⟨b, o, none⟩ v) z F (os.set k (.blk b e (cs.set o v))) := by
  have h : w.heap[b]? = some (.cells cs.toArray e (0, 0)) := hH.own _ (List.mem_of_getElem? hk)
  refine hH.turn k hk (some b) (fun g e => by cases e; simp [Own.blk, Own.obj]) ⟨rfl, rfl, rfl, by simp [World.setCell], fun j _ hj => Below.heap_setCell _ _ _ _ (fun e => hj (by rw [e]))⟩ ?_ (fun g hg => .inl hg) (by simp [Own.blk, Own.obj])
  show (w.setCell ⟨b, o, none⟩ v).heap[b]? = _
  simp [World.setCell, Array.getElem?_modify, h]
theorem rd_loadK {t : TypeId} {x : Operand} (k : Nat) (ht : scalarT P t = true) (hH : Hp w0 w z F os) {b o : Nat} (hx : ev fr x = .pointer (some ⟨b, o, none⟩)) {e : TypeId} {cs : List Value} (hk : os[k]? = some (.blk b e cs)) {v : Value} (hv : cs[o]? = some v) :
    Runs P fr ⟨d, .load t x, ty, pos, aft, g⟩ v w := rd_load ht hx (hH.blk_cell k hk hv)
theorem rd_loadKA {t : TypeId} {x : Operand} (k : Nat) (ht : aggT P t = true) (hH : Hp w0 w z F os) {b o : Nat} (hx : ev fr x = .pointer (some ⟨b, o, none⟩)) {e : TypeId} {cs : List Value} (hk : os[k]? = some (.blk b e cs)) {m : Nat} (hz : sizeT P t = some m) (cs' : List Value) (hc : cs' = (cs.drop o).take m) (hm : cs'.length = m) :
    Runs P fr ⟨d, .load t x, ty, pos, aft, g⟩ (.agg cs'.toArray) w := by
  refine rd_loadA ht hx cs' (by rw [hz, hm]) (fun j u hu => ?_)
  rw [add_blk]
  refine hH.blk_cell k hk ?_
  subst hc
  rw [List.getElem?_take] at hu
  split at hu
  · simpa using hu
  · cases hu
theorem st_storeK {t : TypeId} {x y : Operand} (k : Nat) (hi : ops[i]? = some ⟨d, .store t x y, ty, pos, aft, g⟩) (hg : guardV ops fr ⟨d, .store t x y, ty, pos, aft, g⟩ = some true) (hs : (dok n d && knowns fr (.store t x y) && true) = true)
    (hH : Hp w0 w z F os) {b o : Nat} (hx : ev fr x = .pointer (some ⟨b, o, none⟩)) {v : Value} (hy : ev fr y = v) (hv : v.oneCell' = true) (hz : sizeT P t = some 1) {e : TypeId} {cs : List Value} (hk : os[k]? = some (.blk b e cs)) (ho : o < cs.length)
    (h : ∀ w', Hp w0 w' z F (os.set k (.blk b e (cs.set o v))) → K (pf fr d undef) w') : ST P n ops Q i K fr w :=
  st_store hi hg hs hx hy hv hz (hH.blk_cell k hk (List.getElem?_eq_getElem ho)) (hH.blk_free k hk o) (h _ (hH.blk_set k hk o v))

/-- A store of several cells. -/
theorem Hp.blk_sets (hH : Hp w0 w z F os) (k : Nat) {b : Nat} {e : TypeId} {cs : List Value} (hk : os[k]? = some (.blk b e cs)) : ∀ (vs : List Value) (o : Nat), o + vs.length ≤ cs.length → (∀ v ∈ vs, v.oneCell' = true) →
    ∃ w', (storeCells ⟨b, o, none⟩ vs 0).run P w = .ok () w' ∧ Hp w0 w' z F (os.set k (.blk b e (cs.take o ++ vs ++ cs.drop (o + vs.length)))) := by
  intro vs o hl h1
  have h : w.heap[b]? = some (.cells cs.toArray e (0, 0)) := hH.own _ (List.mem_of_getElem? hk)
  refine ⟨_, run_storeCells_at P b o e vs 0 cs.toArray w h (by simpa using hl) h1, ?_⟩
  refine hH.turn k hk (some b) (fun g e => by cases e; simp [Own.blk, Own.obj]) ⟨rfl, rfl, rfl, by simp [World.setRow], fun j _ hj => ?_⟩ ?_ (fun g hg => .inl hg) (by simp [Own.blk, Own.obj])
  · have : b ≠ j := fun e => hj (by rw [e])
    simp [World.setRow, Array.getElem?_modify, this]
  · have := setRow_heap w b cs.toArray (cs.take o ++ vs ++ cs.drop (o + vs.length)).toArray e (0, 0) h
    simpa [Own.at, Own.blk, Own.obj] using this
theorem st_storeKA {t : TypeId} {x y : Operand} (k : Nat) (hi : ops[i]? = some ⟨d, .store t x y, ty, pos, aft, g⟩) (hg : guardV ops fr ⟨d, .store t x y, ty, pos, aft, g⟩ = some true) (hs : (dok n d && knowns fr (.store t x y) && true) = true)
    (hH : Hp w0 w z F os) {b o : Nat} (hx : ev fr x = .pointer (some ⟨b, o, none⟩)) {vs : List Value} (hy : (ev fr y).cells = vs.toArray) (hv : (vs.all Value.oneCell') = true) (hz : sizeT P t = some vs.length) {e : TypeId} {cs : List Value} (hk : os[k]? = some (.blk b e cs)) (ho : o + vs.length ≤ cs.length)
    (cs' : List Value) (hc : cs' = cs.take o ++ vs ++ cs.drop (o + vs.length))
    (h : ∀ w', Hp w0 w' z F (os.set k (.blk b e cs')) → K (pf fr d undef) w') : ST P n ops Q i K fr w := by
  subst hc
  obtain ⟨w', h1, h2⟩ := hH.blk_sets (P := P) k hk vs o ho (by simpa [List.all_eq_true] using hv)
  refine st_run0 hi hg hs w' ?_ (h w' h2)
  simp [execOp, hx, Instr.storeAt, Instr.sureAddr, storeVar, run_sizeOf_of hz, hy, h1, Result.andThen]

/-! ### 2. Slices that are read -/
theorem Row.form {c : Zone} {v : Value} {m l : Nat} {cs : List Value} (h : Row c v m l cs) : ∃ A cap, v = .slice A l cap ∧ l ≤ cap ∧ cap ≤ maxLen := by
  obtain ⟨_, A, cap, h1, h2, h3, _⟩ := h
  exact ⟨A, cap, h1, h2, h3⟩
theorem rd_len {x : Operand} {t e : TypeId} (ht : elemT P t = some e) {A : Option Addr} {l cap : Nat} (hx : ev fr x = .slice A l cap) : Runs P fr ⟨d, .call ⟨.builtin .len, #[x], #[t]⟩, ty, pos, aft, g⟩ (.int .i64 l) w := by
  simp [Runs, execOp, resolve, invoke, builtin, Builtin.len_, hx, run_underlying (underlying_of_elem ht), goInt, Result.andThen]
theorem rd_cap {x : Operand} {t e : TypeId} (ht : elemT P t = some e) {A : Option Addr} {l cap : Nat} (hx : ev fr x = .slice A l cap) : Runs P fr ⟨d, .call ⟨.builtin .cap, #[x], #[t]⟩, ty, pos, aft, g⟩ (.int .i64 cap) w := by
  simp [Runs, execOp, resolve, invoke, builtin, Builtin.cap_, hx, run_underlying (underlying_of_elem ht), goInt, Result.andThen]
/-- Element j of slice v lies at p. -/
def IdxOf (v : Value) (m j : Nat) (p : Addr) : Prop := ∃ A l cap, v = .slice (some A) l cap ∧ j < l ∧ p = A.add (j * m)
theorem rd_idx {t e : TypeId} {x y : Operand} (ht : elemT P t = some e) {m : Nat} (hz : sizeT P e = some m) {v : Value} (hx : ev fr x = v) {k : IntKind} {j : Nat} (hy : ev fr y = .int k j) {p : Addr} (hp : IdxOf v m j p) : Runs P fr ⟨d, .indexAddr t x y, ty, pos, aft, g⟩ (.pointer (some p)) w := by
  obtain ⟨A, l, cap, rfl, hj, rfl⟩ := hp
  exact rd_index ht hz hx j hy hj
theorem Row.idx {c : Zone} {v : Value} {m l : Nat} {cs : List Value} (hR : Row c v m l cs) (j : Nat) (hj : j < l) (hm : 0 < m) : ∃ p, IdxOf v m j p ∧ ∀ q u, q < m → cs[j * m + q]? = some u → c (p.add q) = some u := by
  obtain ⟨h0, A, cap, rfl, h1, h2, h3⟩ := hR
  have hlt : j * m < cs.length := by
    rw [h0]
    have : j * m + m ≤ l * m := by rw [← Nat.succ_mul]; exact Nat.mul_le_mul_right _ hj
    omega
  obtain ⟨ad, rfl, _⟩ := h3 (j * m) _ (List.getElem?_eq_getElem hlt)
  refine ⟨_, ⟨ad, l, cap, rfl, hj, rfl⟩, fun q u hq hu => ?_⟩
  obtain ⟨ad', e', hc⟩ := h3 _ u hu
  cases e'
  rw [add_add]
  exact hc
/-- v' is v[a:b] or v[a:b:mx]. -/
def CutOf (v : Value) (m a b mx : Nat) (v' : Value) : Prop := ∃ A l cap, v = .slice A l cap ∧ a ≤ b ∧ b ≤ mx ∧ mx ≤ cap ∧ v' = .slice (if mx = a then A else A.map (·.add (a * m))) (b - a) (mx - a)
theorem row_cut {c : Zone} {A : Option Addr} {l cap m : Nat} {cs : List Value} (hR : Row c (.slice A l cap) m l cs) (hm : 0 < m) (lo hi mx : Nat) (h1 : lo ≤ hi) (h2 : hi ≤ l) (h3 : hi ≤ mx) (h4 : mx ≤ cap) :
    Row c (.slice (if mx = lo then A else A.map (·.add (lo * m))) (hi - lo) (mx - lo)) m (hi - lo) ((cs.drop (lo * m)).take ((hi - lo) * m)) := by
  obtain ⟨h0, A', cap', e, k1, k2, k3⟩ := hR
  cases e
  refine ⟨?_, _, _, rfl, by omega, by omega, fun j u hu => ?_⟩
  · rw [List.length_take, List.length_drop, h0, Nat.sub_mul]
    have : hi * m ≤ l * m := Nat.mul_le_mul_right _ h2
    omega
  · rw [List.getElem?_take] at hu
    split at hu
    · rename_i hj
      rw [List.getElem?_drop] at hu
      obtain ⟨ad, rfl, hc⟩ := k3 _ u hu
      have hne : mx ≠ lo := by
        rintro rfl
        have : hi - mx = 0 := by omega
        rw [this] at hj
        simp at hj
      exact ⟨ad.add (lo * m), by simp [hne], by rw [add_add]; exact hc⟩
    · cases hu
theorem Row.cut {c : Zone} {A : Option Addr} {m l cap : Nat} {cs : List Value} (hR : Row c (.slice A l cap) m l cs) (hm : 0 < m) (a b : Nat) (hab : a ≤ b) (hb : b ≤ l) :
    ∃ A', CutOf (.slice A l cap) m a b cap (.slice A' (b - a) (cap - a)) ∧ Row c (.slice A' (b - a) (cap - a)) m (b - a) ((cs.drop (a * m)).take ((b - a) * m)) := by
  have hl : l ≤ cap := by obtain ⟨_, A', cap', e, h, _⟩ := hR; cases e; exact h
  exact ⟨_, ⟨A, l, cap, rfl, hab, by omega, Nat.le_refl _, rfl⟩, row_cut hR hm a b cap hab hb (by omega) (Nat.le_refl _)⟩
theorem Row.cut3 {c : Zone} {A : Option Addr} {m l cap : Nat} {cs : List Value} (hR : Row c (.slice A l cap) m l cs) (hm : 0 < m) (a b mx : Nat) (hab : a ≤ b) (hb : b ≤ l) (h1 : b ≤ mx) (h2 : mx ≤ cap) :
    ∃ A', CutOf (.slice A l cap) m a b mx (.slice A' (b - a) (mx - a)) ∧ Row c (.slice A' (b - a) (mx - a)) m (b - a) ((cs.drop (a * m)).take ((b - a) * m)) :=
  ⟨_, ⟨A, l, cap, rfl, hab, h1, h2, rfl⟩, row_cut hR hm a b mx hab hb h1 h2⟩
/-- The bounds of a cut, as the operation has them. -/
def bnd (fr : Fr) (o : Option Operand) (q : Nat) (dflt : Nat) : Prop := o = none ∧ q = dflt ∨ ∃ x k, o = some x ∧ ev fr x = .int k (q : Int)
theorem rd_cut {t e : TypeId} {x : Operand} {lo hi' : Option Operand} (ht : elemT P t = some e) {m : Nat} (hz : sizeT P e = some m) {A : Option Addr} {l cap : Nat} (hx : ev fr x = .slice A l cap) {a b : Nat}
    (hlo : bnd fr lo a 0) (hhi : bnd fr hi' b l) {v' : Value} (hc : CutOf (.slice A l cap) m a b cap v') : Runs P fr ⟨d, .slice t x lo hi' none, ty, pos, aft, g⟩ v' w := by
  obtain ⟨A', l', cap', e', h1, h2, h3, rfl⟩ := hc
  cases e'
  have hel : P.underlying t = some (.slice e) := underlying_of_elem ht
  have hai : (a : Int) ≤ (b : Int) := by omega
  have hbc : (b : Int) ≤ (cap : Int) := by omega
  have ha0 : (0 : Int) ≤ (a : Int) := by omega
  have hb0 : (0 : Int) ≤ (b : Int) := by omega
  unfold Runs
  rcases hlo with ⟨rfl, rfl⟩ | ⟨xl, kl, rfl, hxl⟩ <;> rcases hhi with ⟨rfl, rfl⟩ | ⟨xh, kh, rfl, hxh⟩ <;>
    simp [execOp, hx, Instr.sliceAt, Instr.slice, Instr.sliceBounds, Instr.sliceBound, asIntOf, run_underlying hel, run_sizeOf_of hz, Result.andThen, *]
theorem rd_cut3 {t e : TypeId} {x xh xm : Operand} {lo : Option Operand} (ht : elemT P t = some e) {m : Nat} (hz : sizeT P e = some m) {A : Option Addr} {l cap : Nat} (hx : ev fr x = .slice A l cap) {a b mx : Nat}
    (hlo : bnd fr lo a 0) {kh km : IntKind} (hhi : ev fr xh = .int kh (b : Int)) (hmx : ev fr xm = .int km (mx : Int)) {v' : Value} (hc : CutOf (.slice A l cap) m a b mx v') : Runs P fr ⟨d, .slice t x lo (some xh) (some xm), ty, pos, aft, g⟩ v' w := by
  obtain ⟨A', l', cap', e', h1, h2, h3, rfl⟩ := hc
  cases e'
  have hel : P.underlying t = some (.slice e) := underlying_of_elem ht
  have hai : (a : Int) ≤ (b : Int) := by omega
  have hbi : (b : Int) ≤ (mx : Int) := by omega
  have hmi : (mx : Int) ≤ (cap : Int) := by omega
  have hbc : (b : Int) ≤ (cap : Int) := by omega
  have ha0 : (0 : Int) ≤ (a : Int) := by omega
  have hb0 : (0 : Int) ≤ (b : Int) := by omega
  have hm0 : (0 : Int) ≤ (mx : Int) := by omega
  unfold Runs
  rcases hlo with ⟨rfl, rfl⟩ | ⟨xl, kl, rfl, hxl⟩ <;>
    simp [execOp, hx, Instr.sliceAt, Instr.slice, Instr.sliceBounds, Instr.sliceBound, asIntOf, run_underlying hel, run_sizeOf_of hz, Result.andThen, *]

/-! ### 3. Rows of the call's own -/
theorem Hp.row_at (hH : Hp w0 w z F os) (k : Nat) {v : Value} {e : TypeId} {m l : Nat} {xs : List Value} (hk : os[k]? = some (.row v e m l xs)) : w.ownsRow 0 e m v l xs := hH.own _ (List.mem_of_getElem? hk)
theorem Hp.row_reads (hH : Hp w0 w z F os) (k : Nat) {v : Value} {e : TypeId} {m l : Nat} {xs : List Value} (hk : os[k]? = some (.row v e m l xs)) : Row w.cell? v m l xs := Row.of_own (hH.row_at k hk)
theorem st_makeH {t e : TypeId} {x y : Operand} (hi : ops[i]? = some ⟨d, .makeSlice t x y, ty, pos, aft, g⟩) (hg : guardV ops fr ⟨d, .makeSlice t x y, ty, pos, aft, g⟩ = some true) (hs : (dok n d && knowns fr (.makeSlice t x y) && true) = true)
    (ht : elemT P t = some e) {zv : Value} {bytes : Nat} (he : (P.info? e).map (fun i => (i.zero, i.size, i.bytes)) = some (some zv, 1, bytes)) (hz1 : zv.cells = #[zv])
    (l : Nat) {k k' : IntKind} (hx : ev fr x = .int k l) (hy : ev fr y = .int k' l) (hb : bytes * l ≤ 281474976710656) (hm : l ≤ maxLen) (hH : Hp w0 w z F os)
    (h : ∀ v w', Hp w0 w' z F (os ++ [.row v e 1 l (List.replicate l zv)]) → K (pf fr d v) w') : ST P n ops Q i K fr w := by
  refine st_make hi hg hs ht he hz1 l hx hy hb hm fun w' h1 h2 => h _ _ ?_
  exact hH.call (Fresh.row ((Below.refl _ _).grown h2 (Nat.le_refl _) (fun k h => by cases h)) h1)
/-- An element's place in a row of the call's own. -/
theorem Hp.row_idx (hH : Hp w0 w z F os) (k : Nat) {v : Value} {e : TypeId} {m l : Nat} {xs : List Value} (hk : os[k]? = some (.row v e m l xs)) (j : Nat) (hj : j < l) : ∃ b, v.ownBlock = some b ∧ IdxOf v m j ⟨b, j * m, none⟩ := by
  have hr := hH.row_at k hk
  rcases hr.2 with ⟨rfl, rfl⟩ | ⟨b, cap, cur, rfl, rest⟩
  · omega
  · exact ⟨b, rfl, _, l, cap, rfl, hj, by rw [add_blk, Nat.zero_add]⟩
/-- Slice u is row v from element o on, so many of them. -/
def Win (v u : Value) (m o l : Nat) : Prop := ∃ A c, u = .slice A l c ∧ (0 < l → ∃ b, v.ownBlock = some b ∧ A = some ⟨b, o * m, none⟩)
theorem Hp.win_self (hH : Hp w0 w z F os) (k : Nat) {A : Option Addr} {cap : Nat} {e : TypeId} {m l : Nat} {xs : List Value} (hk : os[k]? = some (.row (.slice A l cap) e m l xs)) : Win (.slice A l cap) (.slice A l cap) m 0 l := by
  have hr := hH.row_at k hk
  refine ⟨A, cap, rfl, fun hpos => ?_⟩
  rcases hr.2 with ⟨hv, _⟩ | ⟨g, cap', cur, hv, _⟩
  · cases hv; omega
  · cases hv
    exact ⟨g, rfl, by simp⟩
theorem Win.idx {v u : Value} {m o l : Nat} (h : Win v u m o l) (j : Nat) (hj : j < l) : ∃ b, v.ownBlock = some b ∧ IdxOf u m j ⟨b, (o + j) * m, none⟩ := by
  obtain ⟨A, c, rfl, h1⟩ := h
  obtain ⟨b, hb, rfl⟩ := h1 (by omega)
  exact ⟨b, hb, _, l, c, rfl, hj, by rw [add_blk, Nat.add_mul]⟩
theorem Hp.row_win (hH : Hp w0 w z F os) (k : Nat) {A : Option Addr} {cap : Nat} {e : TypeId} {m l : Nat} {xs : List Value} (hk : os[k]? = some (.row (.slice A l cap) e m l xs)) (a b mx : Nat) (hab : a ≤ b) (hb : b ≤ l) (h1 : b ≤ mx) (h2 : mx ≤ cap) :
    ∃ A', CutOf (.slice A l cap) m a b mx (.slice A' (b - a) (mx - a)) ∧ Win (.slice A l cap) (.slice A' (b - a) (mx - a)) m a (b - a) := by
  have hr := hH.row_at k hk
  refine ⟨_, ⟨A, l, cap, rfl, hab, h1, h2, rfl⟩, _, _, rfl, fun hpos => ?_⟩
  rcases hr.2 with ⟨hv, _⟩ | ⟨g, cap', cur, hv, _⟩
  · cases hv; omega
  · cases hv
    exact ⟨g, rfl, by rw [if_neg (by omega)]; simp [add_blk]⟩
theorem Hp.row_form (hH : Hp w0 w z F os) (k : Nat) {v : Value} {e : TypeId} {m l : Nat} {xs : List Value} (hk : os[k]? = some (.row v e m l xs)) : ∃ A cap, v = .slice A l cap ∧ l ≤ cap ∧ cap ≤ maxLen := (hH.row_reads k hk).form
theorem Hp.row_cell (hH : Hp w0 w z F os) (k : Nat) {v : Value} {e : TypeId} {m l : Nat} {xs : List Value} (hk : os[k]? = some (.row v e m l xs)) {b : Nat} (hb : v.ownBlock = some b) {o : Nat} {u : Value} (hu : xs[o]? = some u) : w.cell? ⟨b, o, none⟩ = some u := by
  have := (hH.row_at k hk).cells hb o u hu
  rwa [add_blk, Nat.zero_add] at this
theorem rd_loadO {t : TypeId} {x : Operand} (k : Nat) (ht : scalarT P t = true) (hH : Hp w0 w z F os) {b o : Nat} (hx : ev fr x = .pointer (some ⟨b, o, none⟩)) {v : Value} {e : TypeId} {m l : Nat} {xs : List Value} (hk : os[k]? = some (.row v e m l xs)) (hb : v.ownBlock = some b) {u : Value} (hu : xs[o]? = some u) :
    Runs P fr ⟨d, .load t x, ty, pos, aft, g⟩ u w := rd_load ht hx (hH.row_cell k hk hb hu)
theorem rd_loadOA {t : TypeId} {x : Operand} (k : Nat) (ht : aggT P t = true) (hH : Hp w0 w z F os) {b o : Nat} (hx : ev fr x = .pointer (some ⟨b, o, none⟩)) {v : Value} {e : TypeId} {m l : Nat} {xs : List Value} (hk : os[k]? = some (.row v e m l xs)) (hb : v.ownBlock = some b) {q : Nat} (hz : sizeT P t = some q) (cs : List Value) (hl : cs.length = q) (hu : ∀ j u, cs[j]? = some u → xs[o + j]? = some u) :
    Runs P fr ⟨d, .load t x, ty, pos, aft, g⟩ (.agg cs.toArray) w :=
  rd_loadA ht hx cs (by rw [hz, hl]) (fun j u h => by rw [add_blk]; exact hH.row_cell k hk hb (hu j u h))
theorem st_storeO {t : TypeId} {x y : Operand} (k : Nat) (hi : ops[i]? = some ⟨d, .store t x y, ty, pos, aft, g⟩) (hg : guardV ops fr ⟨d, .store t x y, ty, pos, aft, g⟩ = some true) (hs : (dok n d && knowns fr (.store t x y) && true) = true)
    (hH : Hp w0 w z F os) {b o : Nat} (hx : ev fr x = .pointer (some ⟨b, o, none⟩)) {u : Value} (hy : ev fr y = u) (hv : u.oneCell' = true) (hz : sizeT P t = some 1) {v : Value} {e : TypeId} {m l : Nat} {xs : List Value} (hk : os[k]? = some (.row v e m l xs)) (hb : v.ownBlock = some b) (ho : o < xs.length)
    (h : ∀ w', Hp w0 w' z F (os.set k (.row v e m l (xs.set o u))) → K (pf fr d undef) w') : ST P n ops Q i K fr w := by
  have hr := hH.row_at k hk
  rcases hr.2 with ⟨rfl, rfl⟩ | ⟨b', cap, cur, rfl, rest⟩
  · simp [Value.ownBlock] at hb
  · have hbb : b' = b := by simpa [Value.ownBlock] using hb
    subst hbb
    refine st_store hi hg hs hx hy hv hz (hH.row_cell k hk hb (List.getElem?_eq_getElem ho)) (hr.frozenAt o) (h _ ?_)
    have hst := hr.stored o u
    refine hH.turn k hk (some b') (fun g e => by cases e; simp [Own.row, Value.ownBlock]) hst.2 hst.1 (fun g hg => .inl hg) (by simp [Own.row, Value.ownBlock])
theorem run_append_row {t e : TypeId} {tyR : TypeId} (ht : elemT P t = some e) {zv : Value} {m bytes : Nat} (he : (P.info? e).map (fun i => (i.zero, i.size, i.bytes)) = some (some zv, m, bytes)) (hzc : zv.cells.size = m) (hm : 0 < m)
    {v x : Value} {l q : Nat} {xs ys : List Value} (hown : w.ownsRow 0 e m v l xs) (hR : Row w.cell? x m q ys) (h1 : ∀ u ∈ ys, u.oneCell' = true) (h63 : l + q ≤ maxLen) (hb : (l + q) * bytes ≤ 140737488355328) :
    ∃ v' w', (Builtin.append_ #[t, t] tyR #[v, x]).run P w = .ok v' w' ∧ w'.ownsRow 0 e m v' (l + q) (xs ++ ys) ∧ w.grownBy w' v.ownBlock ∧ (v'.ownBlock = v.ownBlock ∨ v'.ownBlock = some w.heap.size) := by
  obtain ⟨inf, k1, k2, k3, k4⟩ := info_parts he
  obtain ⟨h0, A, cap, rfl, _, _, hc⟩ := hR
  cases A with
  | some ad =>
    obtain ⟨v', w', r1, r2, r3, _, r5⟩ := run_append_own_at (P := P) w 0 t tyR e inf zv m bytes (underlying_of_elem ht) k1 k2 k3 k4 hzc hm v l xs hown ad q cap ys h0
      (fun j u hu => by obtain ⟨ad', e', hp⟩ := hc j u hu; cases e'; exact hp) h1 h63 hb (Nat.zero_le _)
    exact ⟨v', w', r1, r2, r3, r5⟩
  | none =>
    have hy : ys = [] := by
      cases ys with
      | nil => rfl
      | cons u r => obtain ⟨ad, e', _⟩ := hc 0 u rfl; cases e'
    subst hy
    have hq : q = 0 := by
      simp only [List.length_nil] at h0
      rcases Nat.eq_zero_or_pos q with h | h
      · exact h
      · have := Nat.mul_pos h hm; omega
    subst hq
    refine ⟨v, w, ?_, by simpa using hown, World.grownBy.refl _ _, .inl rfl⟩
    rcases hown.2 with ⟨rfl, rfl⟩ | ⟨b, cap', cur, rfl, _, _, hn, _⟩
    · simp [Builtin.append_, run_underlying (underlying_of_elem ht), sizeOf, typeInfo, k1, Builtin.lenOf, Builtin.firstCells]
    · simp [Builtin.append_, run_underlying (underlying_of_elem ht), sizeOf, typeInfo, k1, Builtin.lenOf, Builtin.firstCells, hn, storeCells]
theorem st_appH {t e : TypeId} {x y : Operand} (k : Nat) (hi : ops[i]? = some ⟨d, .call ⟨.builtin .append, #[x, y], #[t, t]⟩, ty, pos, aft, g⟩) (hg : guardV ops fr ⟨d, .call ⟨.builtin .append, #[x, y], #[t, t]⟩, ty, pos, aft, g⟩ = some true) (hs : (dok n d && knowns fr (.call ⟨.builtin .append, #[x, y], #[t, t]⟩) && true) = true)
    (ht : elemT P t = some e) {zv : Value} {m bytes : Nat} (he : (P.info? e).map (fun i => (i.zero, i.size, i.bytes)) = some (some zv, m, bytes)) (hzc : zv.cells.size = m) (hm : 0 < m) (hH : Hp w0 w z F os)
    {v u : Value} {l q : Nat} {xs ys : List Value} (hx : ev fr x = v) (hk : os[k]? = some (.row v e m l xs)) (hy : ev fr y = u) (hR : Row w.cell? u m q ys) (h1 : ∀ u ∈ ys, u.oneCell' = true) (h63 : l + q ≤ maxLen) (hb : (l + q) * bytes ≤ 140737488355328)
    (h : ∀ v' w', Hp w0 w' z F (os.set k (.row v' e m (l + q) (xs ++ ys))) → K (pf fr d v') w') : ST P n ops Q i K fr w := by
  have hr := hH.row_at k hk
  obtain ⟨v', w', r1, r2, r3, r4⟩ := run_append_row (P := P) (tyR := ty) ht he hzc hm hr hR h1 h63 hb
  refine st_run hi hg hs v' w' ?_ (h v' w' ?_)
  · simp [execOp, resolve, invoke, builtin, hx, hy, r1, Result.andThen]
  · refine hH.turn k hk v.ownBlock (fun b hb => by simp [Own.row, hb]) r3 r2 (fun b hb => ?_) (by simp only [Own.row]; cases v'.ownBlock <;> simp)
    simp only [Own.row, Option.mem_toList] at hb ⊢
    rcases r4 with r4 | r4
    · exact .inl (r4 ▸ hb)
    · rw [r4] at hb; cases hb; exact .inr (Nat.le_refl _)
/-- append to nil: a row of the call's own comes of it. -/
theorem Hp.nilRow (hH : Hp w0 w z F os) (e : TypeId) (m : Nat) : Hp w0 w z F (os ++ [.row (.slice none 0 0) e m 0 []]) := by
  refine hH.call ⟨rfl, rfl, rfl, Nat.le_refl _, fun _ _ _ => rfl, fun _ _ h => by simp at h, ?_, by simp [blksOf, Own.row, Value.ownBlock], by simp [blksOf, Own.row, Value.ownBlock]⟩
  intro o ho
  simp only [List.mem_singleton] at ho
  subst ho
  exact World.ownsRow_nil _ _ _ _
theorem take_patch (cur ys : List Value) (o l r : Nat) (hy : ys.length = r) (h : o + r ≤ l) (hl : l ≤ cur.length) : (cur.take o ++ ys ++ cur.drop (o + r)).take l = (cur.take l).take o ++ ys ++ (cur.take l).drop (o + r) := by
  rw [List.take_take, Nat.min_eq_left (by omega), List.drop_take, List.take_append, List.take_of_length_le (by simp; omega)]
  simp only [List.length_append, List.length_take, hy]
  rw [Nat.min_eq_left (by omega)]
/-- copy into a window of a row of the call's own. -/
theorem st_copyH {t t2 e : TypeId} {x y : Operand} (k : Nat) (hi : ops[i]? = some ⟨d, .call ⟨.builtin .copy, #[x, y], #[t, t2]⟩, ty, pos, aft, g⟩) (hg : guardV ops fr ⟨d, .call ⟨.builtin .copy, #[x, y], #[t, t2]⟩, ty, pos, aft, g⟩ = some true) (hs : (dok n d && knowns fr (.call ⟨.builtin .copy, #[x, y], #[t, t2]⟩) && true) = true)
    (ht : elemT P t = some e) (hz : sizeT P e = some 1) (hH : Hp w0 w z F os) {v u s : Value} {l o c q : Nat} {xs ys : List Value} (hk : os[k]? = some (.row v e 1 l xs)) (hx : ev fr x = u) (hW : Win v u 1 o c) (hoc : o + c ≤ l) (hy : ev fr y = s) (hR : Row w.cell? s 1 q ys) (h1 : ∀ u ∈ ys, u.oneCell' = true)
    (h : ∀ w', Hp w0 w' z F (os.set k (.row v e 1 l (xs.take o ++ ys.take (min q c) ++ xs.drop (o + min q c)))) → K (pf fr d (.int .i64 ((min q c : Nat) : Int))) w') : ST P n ops Q i K fr w := by
  have hr := hH.row_at k hk
  obtain ⟨A, cc, rfl, hA⟩ := hW
  obtain ⟨h0, A2, cap2, rfl, _, _, hc⟩ := hR
  have hq0 : (P.info? e).map (·.size) = some 1 := hz
  have hel := underlying_of_elem ht
  by_cases hmin : min q c = 0
  · rw [hmin] at h
    have hrun := run_copy_none (P := P) w t t2 ty e A A2 c cc q cap2 hel hq0 hmin
    refine st_run hi hg hs _ w ?_ (h w ?_)
    · simp [execOp, resolve, invoke, builtin, hx, hy, hrun, Result.andThen, goInt]
    · simp only [List.take_zero, List.append_nil, Nat.add_zero, List.take_append_drop]
      have : os.set k (.row v e 1 l xs) = os := by
        apply List.ext_getElem?
        intro j
        rw [List.getElem?_set]
        split
        · rename_i hj
          subst hj
          split
          · exact hk.symm
          · rename_i hlt; exact absurd (List.getElem?_eq_some_iff.1 hk).1 hlt
        · rfl
      rw [this]; exact hH
  · have hcpos : 0 < c := by omega
    have hqpos : 0 < q := by omega
    obtain ⟨b, hb, rfl⟩ := hA hcpos
    have hys : ys.length = q := by simpa using h0
    obtain ⟨ad2, rfl, _⟩ := hc 0 _ (List.getElem?_eq_getElem (by omega))
    rcases hr.2 with ⟨rfl, rfl⟩ | ⟨b', cap, cur, rfl, hbb, hg', hn, hm, hsz, htk⟩
    · simp [Value.ownBlock] at hb
    · have : b' = b := by simpa [Value.ownBlock] using hb
      subst this
      have hxl : xs.length = l := by simpa using hr.1
      have hlen : (ys.take (min q c)).length = min q c := by rw [List.length_take, hys]; exact Nat.min_eq_left (Nat.min_le_left _ _)
      have hrun := run_copy_row (P := P) w t t2 ty e b' (o * 1) c cc ad2 q cap2 cur e (ys.take (min q c)) hel hq0 hg' hlen
        (fun j v hv => by
          rw [List.getElem?_take] at hv
          split at hv
          · obtain ⟨ad', e', hp⟩ := hc j v hv; cases e'; exact hp
          · cases hv)
        (by rw [hlen, hsz]; have := Nat.min_le_right q c; omega)
        (fun v hv => h1 v (List.mem_of_mem_take hv))
      rw [hlen] at hrun
      rw [Nat.mul_one] at hrun
      refine st_run hi hg hs _ (w.setRow b' (List.take o cur.toList ++ List.take (min q c) ys ++ List.drop (o + min q c) cur.toList).toArray) ?_ (h _ ?_)
      · have e2 : o * 1 = o := Nat.mul_one o
        simp only [e2] at hx
        simp [execOp, resolve, invoke, builtin, hx, hy, hrun, Result.andThen, goInt]
      · refine hH.turn k hk (some b') (fun g e => by cases e; simp [Own.row, Value.ownBlock]) ⟨rfl, rfl, rfl, by simp [World.setRow], fun j _ hj => ?_⟩ ?_ (fun g hg => .inl hg) (by simp [Own.row, Value.ownBlock])
        · have : b' ≠ j := fun e => hj (by rw [e])
          simp [World.setRow, Array.getElem?_modify, this]
        · refine ⟨by simp [hys, hxl]; omega, .inr ⟨b', cap, _, rfl, hbb, setRow_heap w b' cur _ e (0, 0) hg', hn, hm, ?_, ?_⟩⟩
          · simp [hys, hsz]; omega
          · simp only [Nat.mul_one] at htk ⊢
            rw [← htk]
            exact take_patch _ _ o l (min q c) (by simpa using hlen) (by have := Nat.min_le_right q c; omega) (by simpa using by omega)
/-- A slice literal. -/
theorem st_buildS {t e : TypeId} {len : Nat} {ps : Array (Nat × Operand)} (hi : ops[i]? = some ⟨d, .buildSlice t len ps, ty, pos, aft, g⟩) (hg : guardV ops fr ⟨d, .buildSlice t len ps, ty, pos, aft, g⟩ = some true) (hs : (dok n d && knowns fr (.buildSlice t len ps) && true) = true)
    (ht : elemT P t = some e) {zv : Value} {m bytes : Nat} (he : (P.info? e).map (fun i => (i.zero, i.size, i.bytes)) = some (some zv, m, bytes)) (hsz : (Nat.ble (len * m) 16777216 && (len * m != 0) && Nat.ble len 16777216) = true) {cs : List Value}
    (hf : Instr.fill (fun i => some (i * m, m)) ((Array.range (len * m)).map (zv.cells[· % zv.cells.size]!)) (ps.map fun (i, x) => (i, ev fr x)).toList = some cs.toArray) (hcl : cs.length = len * m) (hH : Hp w0 w z F os)
    (h : ∀ b w', Hp w0 w' z F (os ++ [.row (.slice (some ⟨b, 0, none⟩) len len) e m len cs]) → K (pf fr d (.slice (some ⟨b, 0, none⟩) len len)) w') : ST P n ops Q i K fr w := by
  obtain ⟨inf, h1, h2, h3, h4⟩ := info_parts he
  simp only [Bool.and_eq_true, bne_iff_ne, ne_eq, Nat.ble_eq] at hsz
  have hrun := run_buildSlice (P := P) w t e len (ps.map fun (i, x) => (i, ev fr x)) cs.toArray inf zv (underlying_of_elem ht) h1 h2 (by rw [h3]; omega) (by rw [h3]; exact hsz.1.2) (by rw [h3]; exact hf)
  refine st_run hi hg hs _ (w.alloc (.cells cs.toArray e)) ?_ (h w.heap.size _ ?_)
  · simp [execOp, hrun, Result.andThen]
  · refine hH.call (w' := w.alloc (.cells cs.toArray e)) (Fresh.row ((Below.refl _ _).grown (World.grownBy_alloc w _ none) (Nat.le_refl _) (fun k h => by cases h)) ?_)
    exact ⟨hcl, .inr ⟨w.heap.size, len, cs.toArray, rfl, Nat.le_refl _, heap_alloc_new w _, Nat.le_refl _, by simp only [maxLen]; omega, by simpa using hcl, by simp [← hcl]⟩⟩
theorem Hp.row_eq (hH : Hp w0 w z F os) (k : Nat) {v : Value} {e : TypeId} {m l l' : Nat} {xs xs' : List Value} (hk : os[k]? = some (.row v e m l xs)) (hn : l = l') (hx : xs = xs') : Hp w0 w z F (os.set k (.row v e m l' xs')) := by
  subst hn; subst hx
  have : os.set k (.row v e m l xs) = os := by
    apply List.ext_getElem?
    intro j
    rw [List.getElem?_set]
    split
    · rename_i hj
      subst hj
      split
      · exact hk.symm
      · rename_i hlt; exact absurd (List.getElem?_eq_some_iff.1 hk).1 hlt
    · rfl
  rw [this]; exact hH
theorem Hp.blk_eq (hH : Hp w0 w z F os) (k : Nat) {b : Nat} {e : TypeId} {cs cs' : List Value} (hk : os[k]? = some (.blk b e cs)) (hx : cs = cs') : Hp w0 w z F (os.set k (.blk b e cs')) := by
  subst hx
  have : os.set k (.blk b e cs) = os := by
    apply List.ext_getElem?
    intro j
    rw [List.getElem?_set]
    split
    · rename_i hj
      subst hj
      split
      · exact hk.symm
      · rename_i hlt; exact absurd (List.getElem?_eq_some_iff.1 hk).1 hlt
    · rfl
  rw [this]; exact hH
theorem Hp.drew (hH : Hp w0 w z F os) : Hp w0 { w with drawn := w.drawn + 1 } z F os := hH.same rfl rfl rfl rfl
theorem Win.reads (hH : Hp w0 w z F os) (k : Nat) {v : Value} {A : Option Addr} {q : Nat} {e : TypeId} {m l o c : Nat} {xs : List Value} (hk : os[k]? = some (.row v e m l xs)) (hW : Win v (.slice A c q) m o c) (hoc : o + c ≤ l) (hq : c ≤ q) (hq2 : q ≤ maxLen) : Row w.cell? (.slice A c q) m c ((xs.drop (o * m)).take (c * m)) := by
  obtain ⟨A, q, e', hA⟩ := hW
  cases e'
  have hr := hH.row_at k hk
  have hxl := hr.1
  refine ⟨?_, A, q, rfl, hq, hq2, fun j u hj => ?_⟩
  · rw [List.length_take, List.length_drop, hxl]
    have : (o + c) * m ≤ l * m := Nat.mul_le_mul_right _ hoc
    rw [Nat.add_mul] at this
    omega
  · rw [List.getElem?_take] at hj
    split at hj
    · rename_i hlt
      have hc : 0 < c := by
        rcases Nat.eq_zero_or_pos c with h | h
        · subst h; simp at hlt
        · exact h
      obtain ⟨b, hb, rfl⟩ := hA hc
      rw [List.getElem?_drop] at hj
      exact ⟨_, rfl, by rw [add_blk]; exact hH.row_cell k hk hb hj⟩
    · cases hj
theorem Win.cut {v : Value} {A : Option Addr} {m o l cap : Nat} (hW : Win v (.slice A l cap) m o l) (a b mx : Nat) (hab : a ≤ b) (hb : b ≤ l) (h1 : b ≤ mx) (h2 : mx ≤ cap) :
    ∃ A', CutOf (.slice A l cap) m a b mx (.slice A' (b - a) (mx - a)) ∧ Win v (.slice A' (b - a) (mx - a)) m (o + a) (b - a) := by
  obtain ⟨A0, q, e, hA⟩ := hW
  cases e
  refine ⟨_, ⟨A, l, cap, rfl, hab, h1, h2, rfl⟩, _, _, rfl, fun hpos => ?_⟩
  obtain ⟨g, hg, rfl⟩ := hA (by omega)
  exact ⟨g, hg, by rw [if_neg (by omega)]; simp [add_blk, Nat.add_mul]⟩
theorem rd_loadZA {t : TypeId} {x : Operand} (ht : aggT P t = true) (hH : Hp w0 w z F os) {p : Addr} {m : Nat} {cs : List Value} {j : Nat} (hp : ∀ q u, q < m → cs[j * m + q]? = some u → z (p.add q) = some u) {ad : Addr} (hx : ev fr x = .pointer (some ad)) (q0 : Nat) (had : ad = p.add q0) (cs' : List Value) (hz : sizeT P t = some cs'.length) (hc : ∀ i u, cs'[i]? = some u → q0 + i < m ∧ cs[j * m + (q0 + i)]? = some u) :
    Runs P fr ⟨d, .load t x, ty, pos, aft, g⟩ (.agg cs'.toArray) w := by
  subst had
  refine rd_loadA ht hx cs' hz fun i u hu => ?_
  rw [add_add]
  obtain ⟨h1, h2⟩ := hc i u hu
  exact hH.zin _ _ (hp _ u h1 h2)
/-! ### append, where what lies in the way is the model's own bound -/
theorem run_append_rowF {t e : TypeId} {tyR : TypeId} (ht : elemT P t = some e) {zv : Value} {m bytes : Nat} (he : (P.info? e).map (fun i => (i.zero, i.size, i.bytes)) = some (some zv, m, bytes)) (hzc : zv.cells.size = m) (hm : 0 < m)
    {A : Option Addr} {x : Value} {l cap q : Nat} {xs ys : List Value} (hown : w.ownsRow 0 e m (.slice A l cap) l xs) (hR : Row w.cell? x m q ys) (h1 : ∀ u ∈ ys, u.oneCell' = true) (h63 : l + q ≤ maxLen) (hfit : cap < l + q → Builtin.nextslicecap (l + q) cap * bytes ≤ 281474976710656) :
    ∃ v' w', (Builtin.append_ #[t, t] tyR #[.slice A l cap, x]).run P w = .ok v' w' ∧ w'.ownsRow 0 e m v' (l + q) (xs ++ ys) ∧ w.grownBy w' (Value.slice A l cap).ownBlock ∧ (v'.ownBlock = (Value.slice A l cap).ownBlock ∨ v'.ownBlock = some w.heap.size) ∧ (l + q ≤ cap → v' = .slice A (l + q) cap) := by
  obtain ⟨inf, k1, k2, k3, k4⟩ := info_parts he
  subst k3
  subst k4
  obtain ⟨h0, A2, cap2, rfl, _, _, hc⟩ := hR
  cases A2 with
  | none =>
    have hy : ys = [] := by
      cases ys with
      | nil => rfl
      | cons u r => obtain ⟨ad, e', _⟩ := hc 0 u rfl; cases e'
    subst hy
    have hq : q = 0 := by
      simp only [List.length_nil] at h0
      rcases Nat.eq_zero_or_pos q with h | h
      · exact h
      · have := Nat.mul_pos h hm; omega
    subst hq
    refine ⟨.slice A l cap, w, ?_, by simpa using hown, World.grownBy.refl _ _, .inl rfl, fun _ => rfl⟩
    rcases hown.2 with ⟨hv, rfl⟩ | ⟨b, cap', cur, hv, _, _, hn, _⟩
    · cases hv; simp [Builtin.append_, run_underlying (underlying_of_elem ht), sizeOf, typeInfo, k1, Builtin.lenOf, Builtin.firstCells]
    · cases hv; simp [Builtin.append_, run_underlying (underlying_of_elem ht), sizeOf, typeInfo, k1, Builtin.lenOf, Builtin.firstCells, hn, storeCells]
  | some ad =>
    have hcc : ∀ j u, ys[j]? = some u → w.cell? (ad.add j) = some u := fun j u hu => by obtain ⟨ad', e', hp⟩ := hc j u hu; cases e'; exact hp
    have hxl := hown.1
    rcases hown.2 with ⟨hv, rfl⟩ | ⟨b, cap', cur, hv, hbb, hbg, hn, hmx, hsz, htk⟩
    · cases hv
      have hxs : xs = [] := List.eq_nil_of_length_eq_zero (by simpa using hxl)
      subst hxs
      rcases Nat.eq_zero_or_pos q with hq | hq
      · subst hq
        have hy : ys = [] := List.eq_nil_of_length_eq_zero (by simpa using h0)
        subst hy
        refine ⟨.slice none 0 0, w, ?_, by simpa using hown, World.grownBy.refl _ _, .inl rfl, fun _ => rfl⟩
        have hl0 := run_loadCells_list (P := P) (w := w) ad [] (fun j u hu => by simp at hu)
        simp only [List.length_nil] at hl0
        simp [Builtin.append_, run_underlying (underlying_of_elem ht), sizeOf, typeInfo, k1, Builtin.lenOf, Builtin.firstCells, hl0]
      · have hrun := run_append_nil (P := P) w t tyR e inf zv (underlying_of_elem ht) k1 k2 ad q cap2 ys h0 hcc hq (by simp only [maxLen] at h63; omega) (by have := hfit (by omega); rw [Nat.zero_add, nextslicecap_zero hq] at this; exact this)
        have hge := grownCap_ge w q 0 e
        have hle := grownCap_le_maxLen w q 0 e (by omega)
        refine ⟨_, _, hrun, ⟨by simpa using h0, .inr ⟨w.heap.size, _, _, by rw [Nat.zero_add], Nat.zero_le _, heap_alloc_new w.drew _, by simpa using hge, hle, ?_, ?_⟩⟩, ⟨rfl, rfl, rfl, by simp, fun k hk _ => Below.heap_alloc w.drew _ k hk⟩, .inr rfl, fun h => by omega⟩
        · simp [size_zeroCells, hzc, h0, ← Nat.add_mul]
          rw [Nat.add_sub_cancel' hge]
        · simp [h0, List.take_append]
    · cases hv
      by_cases hroom : l + q ≤ cap
      · have hrun := run_append_room (P := P) w t tyR e inf (underlying_of_elem ht) k1 b l cap cur hbg ad q cap2 ys h0 hcc h1 hroom (by rw [h0, hsz, ← Nat.add_mul]; exact Nat.mul_le_mul_right _ hroom)
        have hxlen : cur.toList.take (l * inf.size) = xs := htk
        refine ⟨_, _, hrun, ⟨by simp [hxl, h0, Nat.add_mul], .inr ⟨b, cap, _, rfl, Nat.zero_le _, setRow_heap w b cur _ e (0, 0) hbg, hroom, hmx, ?_, ?_⟩⟩, ⟨rfl, rfl, rfl, by simp [World.setRow], fun j hj hne => ?_⟩, .inl rfl, fun _ => rfl⟩
        · have : (l + q) * inf.size ≤ cap * inf.size := Nat.mul_le_mul_right _ hroom
          rw [Nat.add_mul] at this
          simp [h0]
          omega
        · have hle : (l + q) * inf.size ≤ cap * inf.size := Nat.mul_le_mul_right _ hroom
          have hl2 : (xs ++ ys).length = (l + q) * inf.size := by simp [hxl, h0, Nat.add_mul]
          rw [hxlen]
          simp only
          rw [List.take_append, List.take_of_length_le (by rw [hl2]; exact Nat.le_refl _), hl2]
          simp
        · have : b ≠ j := fun e' => hne (by simp [Value.ownBlock, e'])
          simp [World.setRow, Array.getElem?_modify, this]
      · have hholds : ∀ j v, xs[j]? = some v → w.cell? ((⟨b, 0, none⟩ : Addr).add j) = some v := hown.cells rfl
        have hrun := run_append_grow (P := P) w t tyR e inf zv (underlying_of_elem ht) k1 k2 ⟨b, 0, none⟩ l cap xs hxl hholds ad q cap2 ys h0 hcc (by omega) (by simp only [maxLen] at h63; omega) (hfit (by omega))
        have hge := grownCap_ge w (l + q) cap e
        have hle := grownCap_le_maxLen w (l + q) cap e h63
        refine ⟨_, _, hrun, ⟨by simp [hxl, h0, Nat.add_mul], .inr ⟨w.heap.size, _, _, rfl, Nat.zero_le _, heap_alloc_new w.drew _, hge, hle, ?_, ?_⟩⟩, ⟨rfl, rfl, rfl, by simp, fun k hk _ => Below.heap_alloc w.drew _ k hk⟩, .inr rfl, fun h => absurd h hroom⟩
        · simp [size_zeroCells, hzc, h0, hxl]
          rw [← Nat.add_mul, ← Nat.add_mul, Nat.add_sub_cancel' hge]
        · have hl2 : (xs ++ ys).length = (l + q) * inf.size := by simp [hxl, h0, Nat.add_mul]
          simp only [Array.toList_append, List.append_assoc] at hl2 ⊢
          rw [← List.append_assoc, List.take_append, List.take_of_length_le (by simp only [List.length_append] at hl2; simp only [List.length_append]; omega)]
          simp only [List.length_append] at hl2
          simp [hl2]
theorem st_appF {t e : TypeId} {x y : Operand} (k : Nat) (hi : ops[i]? = some ⟨d, .call ⟨.builtin .append, #[x, y], #[t, t]⟩, ty, pos, aft, g⟩) (hg : guardV ops fr ⟨d, .call ⟨.builtin .append, #[x, y], #[t, t]⟩, ty, pos, aft, g⟩ = some true) (hs : (dok n d && knowns fr (.call ⟨.builtin .append, #[x, y], #[t, t]⟩) && true) = true)
    (ht : elemT P t = some e) {zv : Value} {m bytes : Nat} (he : (P.info? e).map (fun i => (i.zero, i.size, i.bytes)) = some (some zv, m, bytes)) (hzc : zv.cells.size = m) (hm : 0 < m) (hH : Hp w0 w z F os)
    {A : Option Addr} {cap : Nat} {u : Value} {l q : Nat} {xs ys : List Value} (hx : ev fr x = .slice A l cap) (hk : os[k]? = some (.row (.slice A l cap) e m l xs)) (hy : ev fr y = u) (hR : Row w.cell? u m q ys) (h1 : ∀ u ∈ ys, u.oneCell' = true) (h63 : l + q ≤ maxLen) (hfit : cap < l + q → Builtin.nextslicecap (l + q) cap * bytes ≤ 281474976710656)
    (h : ∀ v' w', (l + q ≤ cap → v' = .slice A (l + q) cap) → Hp w0 w' z F (os.set k (.row v' e m (l + q) (xs ++ ys))) → K (pf fr d v') w') : ST P n ops Q i K fr w := by
  have hr := hH.row_at k hk
  obtain ⟨v', w', r1, r2, r3, r4, r5⟩ := run_append_rowF (P := P) (tyR := ty) ht he hzc hm hr hR h1 h63 hfit
  refine st_run hi hg hs v' w' ?_ (h v' w' r5 ?_)
  · simp [execOp, resolve, invoke, builtin, hx, hy, r1, Result.andThen]
  · refine hH.turn k hk (Value.slice A l cap).ownBlock (fun b hb => by simp [Own.row, hb]) r3 r2 (fun b hb => ?_) (by simp only [Own.row]; cases v'.ownBlock <;> simp)
    simp only [Own.row, Option.mem_toList] at hb ⊢
    rcases r4 with r4 | r4
    · exact .inl (r4 ▸ hb)
    · rw [r4] at hb; cases hb; exact .inr (Nat.le_refl _)
/-- append(nil, make([]T, n)...). -/
theorem st_appZ {t tn e : TypeId} {x y : Operand} {kn : IntKind} (hi : ops[i]? = some ⟨d, .call ⟨.builtin .append, #[x, y], #[t, tn]⟩, ty, pos, aft, g⟩) (hg : guardV ops fr ⟨d, .call ⟨.builtin .append, #[x, y], #[t, tn]⟩, ty, pos, aft, g⟩ = some true) (hs : (dok n d && knowns fr (.call ⟨.builtin .append, #[x, y], #[t, tn]⟩) && true) = true)
    (ht : elemT P t = some e) (htn : P.underlying tn = some (.int kn)) {zv : Value} {bytes : Nat} (he : (P.info? e).map (fun i => (i.zero, i.size, i.bytes)) = some (some zv, 1, bytes)) (hzc : zv.cells = #[zv]) (hH : Hp w0 w z F os)
    {k : IntKind} {q : Nat} (hx : ev fr x = .slice none 0 0) (hy : ev fr y = .int k (q : Nat)) (h0 : 0 < q) (h63 : q ≤ maxLen) (h48 : q * bytes ≤ 281474976710656)
    (h : ∀ b cap w', q ≤ cap → cap ≤ maxLen → Hp w0 w' z F (os ++ [.row (.slice (some ⟨b, 0, none⟩) q cap) e 1 q (List.replicate q zv)]) → K (pf fr d (.slice (some ⟨b, 0, none⟩) q cap)) w') : ST P n ops Q i K fr w := by
  obtain ⟨inf, k1, k2, k3, k4⟩ := info_parts he
  have hrun := Lib.run_append_nil_zeros (P := P) w t tn ty e inf zv k kn (underlying_of_elem ht) htn k1 k2 q h0 (by omega) (by simp only [maxLen] at h63; omega) (by rw [k4]; exact h48)
  have hge := grownCap_ge w q 0 e
  have hle := grownCap_le_maxLen w q 0 e h63
  refine st_run hi hg hs (.slice (some ⟨w.heap.size, 0, none⟩) q (grownCap w q 0 e)) (w.drew.alloc (.cells (Builtin.zeroCells zv.cells q ++ Builtin.zeroCells zv.cells (grownCap w q 0 e - q)) e)) ?_ (h w.heap.size _ _ hge hle (hH.call (w' := w.drew.alloc (.cells (Builtin.zeroCells zv.cells q ++ Builtin.zeroCells zv.cells (grownCap w q 0 e - q)) e)) (Fresh.row ((Below.refl _ _).grown (row := none) ⟨rfl, rfl, rfl, by simp, fun k hk _ => Below.heap_alloc w.drew _ k hk⟩ (Nat.le_refl _) (fun k h => by cases h)) ?_)))
  · simp [execOp, resolve, invoke, builtin, hx, hy, hrun, Result.andThen]
  · refine ⟨by simp, .inr ⟨w.heap.size, _, _, rfl, Nat.le_refl _, heap_alloc_new w.drew _, hge, hle, ?_, ?_⟩⟩
    · simp [size_zeroCells, hzc]
      omega
    · rw [hzc, Nat.mul_one, Array.toList_append, List.take_left' (by simp [size_zeroCells])]
      apply List.ext_getElem
      · simp [Builtin.zeroCells]
      · intro j h1 h2
        simp [Builtin.zeroCells, Nat.mod_one]
/-- A row's front part is a row. -/
theorem Hp.row_shrink (hH : Hp w0 w z F os) (k : Nat) {A : Option Addr} {l cap a : Nat} {e : TypeId} {m : Nat} {xs : List Value} (hk : os[k]? = some (.row (.slice A l cap) e m l xs)) (ha : a ≤ l) : Hp w0 w z F (os.set k (.row (.slice A a cap) e m a (xs.take (a * m)))) := by
  have hr := hH.row_at k hk
  have hbl : (Own.row (.slice A a cap) e m a (xs.take (a * m))).blks = (Own.row (.slice A l cap) e m l xs).blks := by cases A <;> rfl
  have hle : a * m ≤ l * m := Nat.mul_le_mul_right _ ha
  have hat : (Own.row (.slice A a cap) e m a (xs.take (a * m))).at w := by
    refine ⟨by rw [List.length_take, hr.1]; omega, ?_⟩
    rcases hr.2 with ⟨hv, rfl⟩ | ⟨b, cap', cur, hv, h1, h2, h3, h4, h5, h6⟩
    · cases hv
      exact .inl ⟨by rw [show a = 0 by omega], by omega⟩
    · cases hv
      refine .inr ⟨b, cap, cur, rfl, h1, h2, by omega, h4, h5, ?_⟩
      rw [← h6, List.take_take, Nat.min_eq_left hle]
  refine hH.turn k hk none (fun g e => by cases e) (World.grownBy.refl _ _) hat (fun g hg => .inl (hbl ▸ hg)) (by simp only [Own.row]; cases (Value.slice A a cap).ownBlock <;> simp)
/-- An empty slice literal. -/
theorem st_buildS0 {t e : TypeId} (hi : ops[i]? = some ⟨d, .buildSlice t 0 #[], ty, pos, aft, g⟩) (hg : guardV ops fr ⟨d, .buildSlice t 0 #[], ty, pos, aft, g⟩ = some true) (hs : (dok n d && true && true) = true)
    (ht : elemT P t = some e) {m : Nat} (hz : sizeT P e = some m) (hH : Hp w0 w z F os)
    (h : ∀ b w', Hp w0 w' z F (os ++ [.row (.slice (some ⟨b, 0, none⟩) 0 0) e m 0 []]) → K (pf fr d (.slice (some ⟨b, 0, none⟩) 0 0)) w') : ST P n ops Q i K fr w := by
  refine st_run hi hg hs _ (w.alloc (.cells #[] e)) ?_ (h w.heap.size _ (hH.call (w' := w.alloc (.cells #[] e)) (Fresh.row ((Below.refl _ _).grown (World.grownBy_alloc w _ none) (Nat.le_refl _) (fun k h => by cases h)) (World.ownsRow_made w #[] 0 (Nat.le_refl _) (Nat.zero_le _) (by simp)))))
  simp [execOp, Instr.buildSlice, run_underlying (underlying_of_elem ht), run_sizeOf_of hz, Instr.fill, newRow, Result.andThen]
  rw [show Array.map (fun _ => (default : Value)) (Array.range 0) = #[] from by apply Array.ext'; simp]
theorem cut_front {b l cap m a : Nat} (h1 : a ≤ l) (h2 : l ≤ cap) : CutOf (.slice (some ⟨b, 0, none⟩) l cap) m 0 a cap (.slice (some ⟨b, 0, none⟩) a cap) :=
  ⟨_, l, cap, rfl, Nat.zero_le _, by omega, Nat.le_refl _, by split <;> simp [Addr.add]⟩
theorem run_snil {t e : TypeId} (ht : elemT P t = some e) (k : Nat) (A : Option Addr) (l cap : Nat) : (Op.equalIn (k + 1) t (.slice A l cap) (.slice none 0 0)).run P w = .ok A.isNone w := by
  cases A <;> simp [Op.equalIn, run_underlying (underlying_of_elem ht)]
theorem rd_snil_eql {t t2 e : TypeId} {x y : Operand} (ht : elemT P t = some e) {A : Option Addr} {l cap : Nat} (hx : ev fr x = .slice A l cap) (hy : ev fr y = .slice none 0 0) : Runs P fr ⟨d, .binOp .eql t x y t2, ty, pos, aft, g⟩ (.bool A.isNone) w := by
  have h := run_snil (P := P) (w := w) ht 9999 A l cap
  simp only [Runs, execOp, hx, hy, Sem.run_bind]
  have hg : (eqGuard .eql t x y (.slice A l cap) (.slice none 0 0)).run P w = .ok () w := by simp [eqGuard]
  rw [hg]
  simp only [Result.andThen_ok]
  show (Sem.run P (binOp .eql t (.slice A l cap) (.slice none 0 0)) w).andThen _ = _
  have hb : binOp .eql t (.slice A l cap) (.slice none 0 0) = (do pure (.bool (← Op.equal t (.slice A l cap) (.slice none 0 0)))) := by cases A <;> rfl
  rw [hb]
  simp only [Sem.run_bind]
  rw [show (Op.equal t (.slice A l cap) (.slice none 0 0)).run P w = .ok A.isNone w from h]
  rfl
/-- A slice literal of elements of one cell each, every place written. -/
theorem st_buildF {t e : TypeId} {len : Nat} {ps : Array (Nat × Operand)} (hi : ops[i]? = some ⟨d, .buildSlice t len ps, ty, pos, aft, g⟩) (hg : guardV ops fr ⟨d, .buildSlice t len ps, ty, pos, aft, g⟩ = some true) (hs : (dok n d && knowns fr (.buildSlice t len ps) && true) = true)
    (ht : elemT P t = some e) {zv : Value} {bytes : Nat} (he : (P.info? e).map (fun i => (i.zero, i.size, i.bytes)) = some (some zv, 1, bytes)) (hsz : (Nat.ble len 16777216 && (len != 0)) = true) {cs : List Value}
    (hp : (ps.map fun (i, x) => (i, ev fr x)).toList = (cs.zipIdx 0).map fun x => (x.2, x.1)) (hc : ∀ v ∈ cs, v.cells = #[v]) (hcl : cs.length = len) (hH : Hp w0 w z F os)
    (h : ∀ b w', Hp w0 w' z F (os ++ [.row (.slice (some ⟨b, 0, none⟩) len len) e 1 len cs]) → K (pf fr d (.slice (some ⟨b, 0, none⟩) len len)) w') : ST P n ops Q i K fr w := by
  obtain ⟨inf, h1, h2, h3, h4⟩ := info_parts he
  simp only [Bool.and_eq_true, bne_iff_ne, ne_eq, Nat.ble_eq] at hsz
  have hrun := run_buildSlice (P := P) w t e len (ps.map fun (i, x) => (i, ev fr x)) cs.toArray inf zv (underlying_of_elem ht) h1 h2 (by rw [h3]; omega) (by rw [h3]; omega) (by
    rw [hp, h3]
    exact Great.fill_flat _ _ hc (by simp [hcl]))
  refine st_run hi hg hs _ (w.alloc (.cells cs.toArray e)) ?_ (h w.heap.size _ ?_)
  · simp [execOp, hrun, Result.andThen]
  · refine hH.call (w' := w.alloc (.cells cs.toArray e)) (Fresh.row ((Below.refl _ _).grown (World.grownBy_alloc w _ none) (Nat.le_refl _) (fun k h => by cases h)) ?_)
    exact ⟨by simpa using hcl, .inr ⟨w.heap.size, len, cs.toArray, rfl, Nat.le_refl _, heap_alloc_new w _, Nat.le_refl _, by simp only [maxLen]; omega, by simpa using hcl, by simp [← hcl]⟩⟩
/-- make([]T, 0, c). -/
theorem st_makeC {t e : TypeId} {x y : Operand} (hi : ops[i]? = some ⟨d, .makeSlice t x y, ty, pos, aft, g⟩) (hg : guardV ops fr ⟨d, .makeSlice t x y, ty, pos, aft, g⟩ = some true) (hs : (dok n d && knowns fr (.makeSlice t x y) && true) = true)
    (ht : elemT P t = some e) {zv : Value} {bytes : Nat} (he : (P.info? e).map (fun i => (i.zero, i.size, i.bytes)) = some (some zv, 1, bytes)) (hz1 : zv.cells = #[zv])
    (c : Nat) {k k' : IntKind} (hx : ev fr x = .int k 0) (hy : ev fr y = .int k' c) (hb : bytes * c ≤ 281474976710656) (hm : c ≤ maxLen) (hH : Hp w0 w z F os)
    (h : ∀ b w', Hp w0 w' z F (os ++ [.row (.slice (some ⟨b, 0, none⟩) 0 c) e 1 0 []]) → K (pf fr d (.slice (some ⟨b, 0, none⟩) 0 c)) w') : ST P n ops Q i K fr w := by
  obtain ⟨inf, h1, h2, h3, h4⟩ := info_parts he
  have hr := run_make (P := P) w t e inf zv (underlying_of_elem ht) h1 h2 k k' 0 c (by omega) (by omega) (by rw [h4, ← Int.natCast_mul]; omega) (by unfold maxLen at hm; omega)
  simp only [Int.toNat_natCast, h3, Nat.mul_one, hz1, Int.toNat_zero] at hr
  refine st_run hi hg hs _ (w.alloc (.cells (madeCells #[zv] c) e)) ?_ (h w.heap.size _ (hH.call (w' := w.alloc (.cells (madeCells #[zv] c) e)) (Fresh.row ((Below.refl _ _).grown (World.grownBy_alloc w _ none) (Nat.le_refl _) (fun k h => by cases h)) (World.ownsRow_made w _ c (Nat.le_refl _) hm (by simp [madeCells])))))
  simp [execOp, hx, hy, hr, Result.andThen]
/-! ### Arrays in boxes -/
def arrT (P : Program) (t : TypeId) : Option (Nat × TypeId) :=
  match P.underlying t with
  | some (.array n e) => some (n, e)
  | _ => none
theorem underlying_of_arr {t e : TypeId} {l : Nat} (h : arrT P t = some (l, e)) : P.underlying t = some (.array l e) := by
  unfold arrT at h
  cases hu : P.underlying t with
  | none => simp [hu] at h
  | some D => cases D <;> simp_all
theorem rd_idxA {t e : TypeId} {x y : Operand} {l : Nat} (ht : arrT P t = some (l, e)) {m : Nat} (hz : sizeT P e = some m) {b o : Nat} (hx : ev fr x = .pointer (some ⟨b, o, none⟩)) {k : IntKind} (j : Nat) (hy : ev fr y = .int k j) (hj : j < l) :
    Runs P fr ⟨d, .indexAddr t x y, ty, pos, aft, g⟩ (.pointer (some ⟨b, o + j * m, none⟩)) w := by
  have hlt : (j : Int) < (l : Int) := by omega
  have hnn : (0 : Int) ≤ (j : Int) := by omega
  simp [Runs, execOp, hx, hy, Instr.indexAt, Instr.sureAddr, asIntOf, run_underlying (underlying_of_arr ht), hlt, hnn, hj, run_sizeOf_of hz, Result.andThen, add_blk]
/-! ### Results in cells -/
theorem RS.cell (hH : Hp w0 w z F os) (k : Nat) {t : TypeId} (ht : scalarT P t = true) {x : Tmp} {b o : Nat} (hx : gt fr x = some (.pointer (some ⟨b, o, none⟩))) {e : TypeId} {cs : List Value} (hk : os[k]? = some (.blk b e cs)) {v : Value} (hv : cs[o]? = some v) : RS P n fr w (.cell x t) v := by
  intro a ha
  simp [resOf, ha.get x _ hx, asAddr, loadVar, run_isAgg_false ht, hH.blk_cell k hk hv, Result.andThen]
theorem RS.cellA (hH : Hp w0 w z F os) (k : Nat) {t : TypeId} (ht : aggT P t = true) {x : Tmp} {b o : Nat} (hx : gt fr x = some (.pointer (some ⟨b, o, none⟩))) {e : TypeId} {cs : List Value} (hk : os[k]? = some (.blk b e cs)) {m : Nat} (hz : sizeT P t = some m) (cs' : List Value) (hc : cs' = (cs.drop o).take m) (hm : cs'.length = m) : RS P n fr w (.cell x t) (.agg cs'.toArray) := by
  intro a ha
  have hl := run_loadCells_list (P := P) (w := w) ⟨b, o, none⟩ cs' (fun j u hu => by
    rw [add_blk]
    refine hH.blk_cell k hk ?_
    subst hc
    rw [List.getElem?_take] at hu
    split at hu
    · simpa using hu
    · cases hu)
  simp [resOf, ha.get x _ hx, asAddr, loadVar, run_isAgg_true ht, run_sizeOf_of hz, ← hm, hl, Result.andThen]
end
end Go.SW
