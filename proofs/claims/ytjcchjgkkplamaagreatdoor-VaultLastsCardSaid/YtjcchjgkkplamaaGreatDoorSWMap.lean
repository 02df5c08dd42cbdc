/- The calculus of SW: maps that the call owns. Plain theorems. -/
import Derived.Test.YtjcchjgkkplamaaGreatDoorSWR
import Derived.MapKept
set_option linter.unusedVariables false
set_option linter.unusedSimpArgs false
set_option maxRecDepth 100000
namespace Go.SW
open Go Go.RowKit Go.MapKept
/-- Keys of one kind. -/
structure KeyF {κ : Type} (d : TypeDesc) (f : κ → Value) : Prop where
  key : ∀ a, IsKey d (f a)
  inj : ∀ a b, f a = f b → a = b
def intK (k : IntKind) (a : Int) : Value := .int k a
theorem intK_key (k : IntKind) : KeyF (.int k) (intK k) := ⟨fun a => by simp [IsKey, intK], fun a b h => by simpa [intK] using h⟩
/-- A map, its entries in the order in which they came. -/
def Own.kmap {κ : Type} (g : Nat) (f : κ → Value) (l : List (κ × Value)) : Own where
  blks := [g]
  at' w := ∃ es clock, w.heap[g]? = some (.map es clock) ∧ es.toList.map (fun e => (e.key, e.val)) = l.map (fun p => (f p.1, p.2))
  lt' w h b hb := by
    simp only [List.mem_singleton] at hb
    subst hb
    obtain ⟨es, c, h1, _⟩ := h
    exact (Array.getElem?_eq_some_iff.1 h1).1
  kept' w w' h hk := by
    obtain ⟨es, c, h1, h2⟩ := h
    exact ⟨es, c, (hk g (by simp)).trans h1, h2⟩
section
variable {P : Program} {n : Nat} {ops : Array Oper} {Q : Exit → Act → World → Prop} {i : Nat} {fr : Fr} {w w0 : World} {z : Zone} {F : List Nat} {os : List Own}
variable {K : Fr → World → Prop} {d : Option Tmp} {ty : TypeId} {pos : String} {aft : Array Edge} {g : Option (Nat × Bool)} {κ : Type}
/-- The place and the value of a key. -/
def kfind [DecidableEq κ] (k : κ) : List (κ × Value) → Nat → Option (Nat × Value)
  | [], _ => none
  | p :: l, i => if p.1 = k then some (i, p.2) else kfind k l (i + 1)
def kget [DecidableEq κ] (l : List (κ × Value)) (k : κ) : Option Value := (kfind k l 0).map (·.2)
theorem kfind_add [DecidableEq κ] (k : κ) : ∀ (l : List (κ × Value)) (i : Nat), kfind k l i = (kfind k l 0).map (fun p => (i + p.1, p.2))
  | [], _ => rfl
  | p :: l, i => by
    unfold kfind
    by_cases h : p.1 = k
    · simp [h]
    · rw [if_neg h, if_neg h, kfind_add k l (i + 1), kfind_add k l (0 + 1)]
      cases kfind k l 0 with
      | none => rfl
      | some q => simp; omega
theorem findNow_map [DecidableEq κ] {dd : TypeDesc} {f : κ → Value} (hf : KeyF dd f) (k : κ) : ∀ (es : List MapEntry) (l : List (κ × Value)) (i : Nat), es.map (fun e => (e.key, e.val)) = l.map (fun p => (f p.1, p.2)) → Instr.findNow dd (f k) es i = some (kfind k l i)
  | [], [], _, _ => rfl
  | [], _ :: _, _, h => by simp at h
  | _ :: _, [], _, h => by simp at h
  | e :: es, p :: l, i, h => by
    simp only [List.map_cons, List.cons.injEq, Prod.mk.injEq] at h
    obtain ⟨⟨h1, h2⟩, h3⟩ := h
    have hr := sameNow_of_keys (hf.key k) (show IsKey dd e.key from h1 ▸ hf.key p.1)
    obtain ⟨r, hr1, hr2⟩ := hr
    unfold Instr.findNow kfind
    rw [hr1]
    by_cases hk : p.1 = k
    · have : r = true := hr2.2 (by rw [h1, hk])
      rw [this, if_pos hk, h2]
    · have : r = false := by
        cases r with
        | false => rfl
        | true => exact absurd (hf.inj _ _ ((hr2.1 rfl).trans h1)).symm hk
      rw [this, if_neg hk]
      exact findNow_map hf k es l (i + 1) h3
def mapT (P : Program) (t : TypeId) : Option (TypeId × TypeId) :=
  match P.underlying t with
  | some (.map k e) => some (k, e)
  | _ => none
theorem underlying_of_map {t k e : TypeId} (h : mapT P t = some (k, e)) : P.underlying t = some (.map k e) := by
  unfold mapT at h
  cases hu : P.underlying t with
  | none => simp [hu] at h
  | some d => cases d <;> simp_all
theorem Hp.map_at (hH : Hp w0 w z F os) (j : Nat) {m : Nat} {f : κ → Value} {l : List (κ × Value)} (hk : os[j]? = some (.kmap m f l)) :
    ∃ es clock, w.heap[m]? = some (.map es clock) ∧ es.toList.map (fun e => (e.key, e.val)) = l.map (fun p => (f p.1, p.2)) := hH.own _ (List.mem_of_getElem? hk)
theorem Hp.map_set (hH : Hp w0 w z F os) (j : Nat) {m : Nat} {f : κ → Value} {l l' : List (κ × Value)} (hk : os[j]? = some (.kmap m f l)) {es : Array MapEntry} {clock : Nat} (he : es.toList.map (fun e => (e.key, e.val)) = l'.map (fun p => (f p.1, p.2))) :
    Hp w0 { w with heap := w.heap.setIfInBounds m (.map es clock) } z F (os.set j (.kmap m f l')) := by
  obtain ⟨es0, c0, h1, _⟩ := hH.map_at j hk
  refine hH.turn j hk (some m) (fun g e => by cases e; simp [Own.kmap]) ⟨rfl, rfl, rfl, by simp, fun k _ hk => (Go.MapKept.heap_set h1).2 k (fun e => hk (by rw [e]))⟩ ⟨es, clock, (Go.MapKept.heap_set h1).1, he⟩ (fun g hg => .inl hg) (by simp [Own.kmap])
theorem Hp.apart (hH : Hp w0 w z F os) (j k : Nat) (hjk : j ≠ k) {o o' : Own} (hj : os[j]? = some o) (hk : os[k]? = some o') {g : Nat} (h1 : g ∈ o.blks) (h2 : g ∈ o'.blks) : False := by
  have hn := hH.nodup
  rw [blksOf, List.Nodup, List.pairwise_flatMap] at hn
  have hp := List.pairwise_iff_getElem.1 hn.2
  obtain ⟨hj1, rfl⟩ := List.getElem?_eq_some_iff.1 hj
  obtain ⟨hk1, rfl⟩ := List.getElem?_eq_some_iff.1 hk
  rcases Nat.lt_or_gt_of_ne hjk with h | h
  · exact hp j k hj1 hk1 h g h1 g h2 rfl
  · exact hp k j hk1 hj1 h g h2 g h1 rfl
theorem Hp.apart_blk (hH : Hp w0 w z F os) (j k : Nat) (hjk : j ≠ k) {b b' : Nat} {e e' : TypeId} {cs cs' : List Value} (hj : os[j]? = some (.blk b e cs)) (hk : os[k]? = some (.blk b' e' cs')) : b ≠ b' := fun e => hH.apart j k hjk hj hk (g := b) (by simp [Own.blk, Own.obj]) (by simp [Own.blk, Own.obj, e])
/-- make(map[K]V). -/
theorem st_makeMap {t : TypeId} (hi : ops[i]? = some ⟨d, .makeMap t none, ty, pos, aft, g⟩) (hg : guardV ops fr ⟨d, .makeMap t none, ty, pos, aft, g⟩ = some true) (hs : (dok n d && knowns fr (.makeMap t none) && true) = true)
    (f : κ → Value) (hH : Hp w0 w z F os) (h : ∀ b w', Hp w0 w' z F (os ++ [.kmap b f []]) → K (pf fr d (.map (some b))) w') : ST P n ops Q i K fr w := by
  refine st_run hi hg hs (.map (some w.heap.size)) (w.alloc (.map #[] 0)) ?_ (h w.heap.size _ (hH.call ?_))
  · simp [execOp, Instr.makeMap, newObj, Sem.run, Result.andThen]
  · refine ⟨rfl, rfl, rfl, by simp, fun k hk _ => Below.heap_alloc _ _ _ hk, fun a v h => by simp at h, ?_, by simp [blksOf, Own.kmap], ?_⟩
    · intro o ho
      simp only [List.mem_singleton] at ho
      subst ho
      exact ⟨#[], 0, heap_alloc_new w _, by simp⟩
    · intro g hg
      simp only [blksOf, List.flatMap_cons, Own.kmap, List.flatMap_nil, List.append_nil, List.mem_singleton] at hg
      exact ⟨.inl (by omega), fun _ _ => rfl⟩
/-- v, ok := m[k]; v := m[k]. -/
theorem run_mapget [DecidableEq κ] {t kt e : TypeId} (j : Nat) (ht : mapT P t = some (kt, e)) {dd : TypeDesc} (hd : P.underlying kt = some dd) {f : κ → Value} (hf : KeyF dd f) {zv : Value} (hz : zeroT P e = some zv) (hH : Hp w0 w z F os) {m : Nat} {l : List (κ × Value)} (hk : os[j]? = some (.kmap m f l)) (k : κ) (ok : Bool) :
    (Instr.lookup t (.map (some m)) (f k) ok).run P w = .ok (if ok then .tuple #[(kget l k).getD zv, .bool (kget l k).isSome] else (kget l k).getD zv) w := by
  obtain ⟨es, c, h1, h2⟩ := hH.map_at j hk
  obtain ⟨inf, z1, z2⟩ := Option.bind_eq_some_iff.1 hz
  have hfn := findNow_map hf k es.toList l 0 h2
  unfold kget
  cases hkf : kfind k l 0 with
  | none =>
    rw [hkf] at hfn
    simp [Instr.lookup, run_underlying (underlying_of_map ht), Go.MapKept.run_getObj_map h1, Go.MapKept.run_checkKey hd (hf.key k), Go.MapKept.run_findKey hd hfn, zeroValue, typeInfo, z1, z2, Result.andThen]
  | some p =>
    rw [hkf] at hfn
    simp [Instr.lookup, run_underlying (underlying_of_map ht), Go.MapKept.run_getObj_map h1, Go.MapKept.run_checkKey hd (hf.key k), Go.MapKept.run_findKey hd hfn, Result.andThen]
theorem rd_mapget [DecidableEq κ] {t kt e : TypeId} {x y : Operand} (j : Nat) (ht : mapT P t = some (kt, e)) {dd : TypeDesc} (hd : P.underlying kt = some dd) {f : κ → Value} (hf : KeyF dd f) {zv : Value} (hz : zeroT P e = some zv) (hH : Hp w0 w z F os) {m : Nat} {l : List (κ × Value)} (hk : os[j]? = some (.kmap m f l)) (hx : ev fr x = .map (some m)) (k : κ) (hy : ev fr y = f k) :
    Runs P fr ⟨d, .lookup t x y false, ty, pos, aft, g⟩ ((kget l k).getD zv) w := by
  simp [Runs, execOp, hx, hy, run_mapget (P := P) j ht hd hf hz hH hk k, Result.andThen]
theorem rd_mapgetOk [DecidableEq κ] {t kt e : TypeId} {x y : Operand} (j : Nat) (ht : mapT P t = some (kt, e)) {dd : TypeDesc} (hd : P.underlying kt = some dd) {f : κ → Value} (hf : KeyF dd f) {zv : Value} (hz : zeroT P e = some zv) (hH : Hp w0 w z F os) {m : Nat} {l : List (κ × Value)} (hk : os[j]? = some (.kmap m f l)) (hx : ev fr x = .map (some m)) (k : κ) (hy : ev fr y = f k) :
    Runs P fr ⟨d, .lookup t x y true, ty, pos, aft, g⟩ (.tuple #[(kget l k).getD zv, .bool (kget l k).isSome]) w := by
  simp [Runs, execOp, hx, hy, run_mapget (P := P) j ht hd hf hz hH hk k, Result.andThen]
theorem rd_maplen {x : Operand} {t kt e : TypeId} (j : Nat) (ht : mapT P t = some (kt, e)) (hH : Hp w0 w z F os) {m : Nat} {f : κ → Value} {l : List (κ × Value)} (hk : os[j]? = some (.kmap m f l)) (hx : ev fr x = .map (some m)) :
    Runs P fr ⟨d, .call ⟨.builtin .len, #[x], #[t]⟩, ty, pos, aft, g⟩ (.int .i64 (l.length : Nat)) w := by
  obtain ⟨es, c, h1, h2⟩ := hH.map_at j hk
  have hl : es.size = l.length := by simpa using congrArg List.length h2
  simp [Runs, execOp, resolve, invoke, builtin, Builtin.len_, hx, run_underlying (underlying_of_map ht), Go.MapKept.run_getObj_map h1, goInt, hl, Result.andThen]
/-- m[k] = v at a key that is not there. -/
theorem st_mapput [DecidableEq κ] {t kt e : TypeId} {x y u : Operand} (j : Nat) (hi : ops[i]? = some ⟨d, .mapUpdate t x y u, ty, pos, aft, g⟩) (hg : guardV ops fr ⟨d, .mapUpdate t x y u, ty, pos, aft, g⟩ = some true) (hs : (dok n d && knowns fr (.mapUpdate t x y u) && true) = true)
    (ht : mapT P t = some (kt, e)) {dd : TypeDesc} (hd : P.underlying kt = some dd) {f : κ → Value} (hf : KeyF dd f) (hH : Hp w0 w z F os) {m : Nat} {l : List (κ × Value)} (hk : os[j]? = some (.kmap m f l)) (hx : ev fr x = .map (some m)) (k : κ) (hy : ev fr y = f k) {v : Value} (hv : ev fr u = v) (hnew : kget l k = none)
    (h : ∀ w', Hp w0 w' z F (os.set j (.kmap m f (l ++ [(k, v)]))) → K (pf fr d undef) w') : ST P n ops Q i K fr w := by
  obtain ⟨es, c, h1, h2⟩ := hH.map_at j hk
  have hfn := findNow_map hf k es.toList l 0 h2
  have hkn : kfind k l 0 = none := by simpa [kget] using hnew
  rw [hkn] at hfn
  refine st_run0 hi hg hs { w with heap := w.heap.setIfInBounds m (.map (es.push ⟨f k, v, c⟩) (c + 1)) } ?_ (h _ (hH.map_set j hk ?_))
  · simp [execOp, hx, hy, hv, Instr.mapUpdate, run_underlying (underlying_of_map ht), Go.MapKept.run_getObj_map h1, Go.MapKept.run_checkKey hd (hf.key k), Go.MapKept.run_findKey hd hfn, Go.MapKept.run_setObj_map _ h1, Result.andThen]
  · simp [h2]
theorem map_eraseIdx {α β : Type} (f : α → β) : ∀ (l : List α) (i : Nat), (l.eraseIdx i).map f = (l.map f).eraseIdx i
  | [], _ => rfl
  | _ :: _, 0 => rfl
  | a :: l, i + 1 => by simp [List.eraseIdx, map_eraseIdx f l i]
def kdel [DecidableEq κ] (l : List (κ × Value)) (k : κ) : List (κ × Value) := match kfind k l 0 with | some (i, _) => l.eraseIdx i | none => l
theorem st_mapdel [DecidableEq κ] {t t2 kt e : TypeId} {x y : Operand} (j : Nat) (hi : ops[i]? = some ⟨d, .call ⟨.builtin .delete, #[x, y], #[t, t2]⟩, ty, pos, aft, g⟩) (hg : guardV ops fr ⟨d, .call ⟨.builtin .delete, #[x, y], #[t, t2]⟩, ty, pos, aft, g⟩ = some true) (hs : (dok n d && knowns fr (.call ⟨.builtin .delete, #[x, y], #[t, t2]⟩) && true) = true)
    (ht : mapT P t = some (kt, e)) {dd : TypeDesc} (hd : P.underlying kt = some dd) {f : κ → Value} (hf : KeyF dd f) (hH : Hp w0 w z F os) {m : Nat} {l : List (κ × Value)} (hk : os[j]? = some (.kmap m f l)) (hx : ev fr x = .map (some m)) (k : κ) (hy : ev fr y = f k)
    (h : ∀ w', Hp w0 w' z F (os.set j (.kmap m f (kdel l k))) → K (pf fr d (.tuple #[])) w') : ST P n ops Q i K fr w := by
  obtain ⟨es, c, h1, h2⟩ := hH.map_at j hk
  have hfn := findNow_map hf k es.toList l 0 h2
  unfold kdel at h
  cases hkf : kfind k l 0 with
  | none =>
    rw [hkf] at hfn h
    refine st_run hi hg hs _ { w with heap := w.heap.setIfInBounds m (.map es c) } ?_ (h _ (hH.map_set j hk h2))
    simp [execOp, resolve, invoke, builtin, Builtin.delete_, hx, hy, run_underlying (underlying_of_map ht), Go.MapKept.run_getObj_map h1, Go.MapKept.run_checkKey hd (hf.key k), Go.MapKept.run_findKey hd hfn, Go.MapKept.run_setObj_map _ h1, Result.andThen]
  | some p =>
    obtain ⟨q, u⟩ := p
    rw [hkf] at hfn h
    refine st_run hi hg hs _ { w with heap := w.heap.setIfInBounds m (.map (es.eraseIdxIfInBounds q) c) } ?_ (h _ (hH.map_set j hk ?_))
    · simp [execOp, resolve, invoke, builtin, Builtin.delete_, hx, hy, run_underlying (underlying_of_map ht), Go.MapKept.run_getObj_map h1, Go.MapKept.run_checkKey hd (hf.key k), Go.MapKept.run_findKey hd hfn, Go.MapKept.run_setObj_map _ h1, Result.andThen]
    · have hE : (es.eraseIdxIfInBounds q).toList = es.toList.eraseIdx q := by
        unfold Array.eraseIdxIfInBounds
        split
        · simp
        · rw [List.eraseIdx_of_length_le (by simpa using by omega)]
      rw [hE, map_eraseIdx, h2, ← map_eraseIdx]
theorem st_mapclear {t kt e : TypeId} {x : Operand} (j : Nat) (hi : ops[i]? = some ⟨d, .call ⟨.builtin .clear, #[x], #[t]⟩, ty, pos, aft, g⟩) (hg : guardV ops fr ⟨d, .call ⟨.builtin .clear, #[x], #[t]⟩, ty, pos, aft, g⟩ = some true) (hs : (dok n d && knowns fr (.call ⟨.builtin .clear, #[x], #[t]⟩) && true) = true)
    (ht : mapT P t = some (kt, e)) (hH : Hp w0 w z F os) {m : Nat} {f : κ → Value} {l : List (κ × Value)} (hk : os[j]? = some (.kmap m f l)) (hx : ev fr x = .map (some m))
    (h : ∀ w', Hp w0 w' z F (os.set j (.kmap m f [])) → K (pf fr d (.tuple #[])) w') : ST P n ops Q i K fr w := by
  obtain ⟨es, c, h1, h2⟩ := hH.map_at j hk
  refine st_run hi hg hs _ { w with heap := w.heap.setIfInBounds m (.map #[] c) } ?_ (h _ (hH.map_set j hk (by simp)))
  simp [execOp, resolve, invoke, builtin, Builtin.clear_, hx, run_underlying (underlying_of_map ht), Go.MapKept.run_getObj_map h1, Go.MapKept.run_setObj_map _ h1, Result.andThen]
end
end Go.SW
namespace Go.SW
open Go Go.RowKit
section
variable {P : Program} {fr : Fr} {w : World} {d : Option Tmp} {ty : TypeId} {pos : String} {aft : Array Edge} {g : Option (Nat × Bool)}
theorem run_part_scalar {t : TypeId} (ht : scalarT P t = true) (cs : Array Value) (o : Nat) {v : Value} (hv : cs[o]? = some v) : (part t cs o).run P w = .ok v w := by
  simp [part, run_isAgg_false ht, hv, Result.andThen]
/-- Two structs of two whole numbers. -/
def pairT (P : Program) (t : TypeId) : Option (TypeId × TypeId) :=
  match (P.fieldsOf t).toList with
  | [f, h] => if f.name == "_" || h.name == "_" || f.offset != 0 || h.offset != 1 then none else some (f.type, h.type)
  | _ => none
theorem run_pair {t T0 T1 : TypeId} (hu : P.underlying t = some (.struct (P.fieldsOf t))) (hp : P.stoodInHeld t = false) (hf : pairT P t = some (T0, T1)) (h0 : scalarT P T0 = true) (h1 : scalarT P T1 = true) {k0 k1 : IntKind} (u0 : P.underlying T0 = some (.int k0)) (u1 : P.underlying T1 = some (.int k1))
    (n : Nat) {k k' : IntKind} (a b c e : Int) : (Op.equalIn (n + 2) t (.agg #[.int k a, .int k' b]) (.agg #[.int k c, .int k' e])).run P w = .ok (a == c && b == e) w := by
  rw [run_equalIn_agg w (n + 1) t _ _ hu hp]
  unfold pairT at hf
  split at hf
  · rename_i f h hl
    split at hf
    · cases hf
    · rename_i hc
      simp only [Bool.or_eq_true, bne_iff_ne, ne_eq, beq_iff_eq, not_or, Decidable.not_not] at hc
      obtain ⟨⟨⟨c1, c2⟩, c3⟩, c4⟩ := hc
      cases hf
      rw [hl]
      simp only [Op.eqFields, c1, c2, c3, c4, ne_eq, not_false_eq_true, if_true, Sem.run_bind, run_part_scalar h0 #[.int k a, .int k' b] 0 (v := .int k a) rfl, run_part_scalar h0 #[.int k c, .int k' e] 0 (v := .int k c) rfl, Result.andThen_ok, run_equalIn_int _ n f.type k k0 a c u0]
      by_cases hac : a = c
      · subst hac
        simp only [beq_self_eq_true, Bool.not_true, Bool.false_eq_true, if_false, Sem.run_bind, run_part_scalar h1 #[.int k a, .int k' b] 1 (v := .int k' b) rfl, run_part_scalar h1 #[.int k a, .int k' e] 1 (v := .int k' e) rfl, Result.andThen_ok, run_equalIn_int _ n h.type k' k1 b e u1, Bool.true_and]
        by_cases hbe : b = e
        · subst hbe; simp
        · have : (b == e) = false := by simpa using hbe
          simp [this]
      · have : (a == c) = false := by simpa using hac
        simp [this]
  · cases hf
theorem rd_pair_eql {t t2 : TypeId} {x y : Operand} (T0 T1 : TypeId) (hu : P.underlying t = some (.struct (P.fieldsOf t))) (hp : P.stoodInHeld t = false) (hm : P.eqGuardType P.depth t = false) (hf : pairT P t = some (T0, T1)) (h0 : scalarT P T0 = true) (h1 : scalarT P T1 = true) {k0 k1 : IntKind} (u0 : P.underlying T0 = some (.int k0)) (u1 : P.underlying T1 = some (.int k1))
    {k k' : IntKind} {a b c e : Int} (hx : ev fr x = .agg #[.int k a, .int k' b]) (hy : ev fr y = .agg #[.int k c, .int k' e]) : Runs P fr ⟨d, .binOp .eql t x y t2, ty, pos, aft, g⟩ (.bool (a == c && b == e)) w := by
  unfold Runs
  simp only [execOp, hx, hy, Sem.run_bind, run_eqGuard_agg w .eql t x y _ _ hm, Result.andThen_ok, run_eql_struct, run_pair hu hp hf h0 h1 u0 u1 9998, Sem.run_pure]
theorem rd_pair_neq {t t2 : TypeId} {x y : Operand} (T0 T1 : TypeId) (hu : P.underlying t = some (.struct (P.fieldsOf t))) (hp : P.stoodInHeld t = false) (hm : P.eqGuardType P.depth t = false) (hf : pairT P t = some (T0, T1)) (h0 : scalarT P T0 = true) (h1 : scalarT P T1 = true) {k0 k1 : IntKind} (u0 : P.underlying T0 = some (.int k0)) (u1 : P.underlying T1 = some (.int k1))
    {k k' : IntKind} {a b c e : Int} (hx : ev fr x = .agg #[.int k a, .int k' b]) (hy : ev fr y = .agg #[.int k c, .int k' e]) : Runs P fr ⟨d, .binOp .neq t x y t2, ty, pos, aft, g⟩ (.bool (!(a == c && b == e))) w := by
  unfold Runs
  simp only [execOp, hx, hy, Sem.run_bind, run_eqGuard_agg w .neq t x y _ _ hm, Result.andThen_ok, run_neq_struct, run_pair hu hp hf h0 h1 u0 u1 9998, Sem.run_pure]
end
end Go.SW
