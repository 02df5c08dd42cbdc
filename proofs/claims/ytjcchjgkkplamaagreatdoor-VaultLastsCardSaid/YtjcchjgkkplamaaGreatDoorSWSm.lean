/- The calculus of SW: maps from strings that the call owns, with their stamps. Plain theorems. -/
import Derived.Test.YtjcchjgkkplamaaGreatDoorSWMap
import Derived.Test.YtjcchjgkkplamaaGreatDoorSWS
import Derived.Maps.Own
import Derived.Sort.KeysCollected
set_option linter.unusedVariables false
set_option linter.unusedSimpArgs false
set_option maxRecDepth 100000
namespace Go.SW
open Go Go.RowKit Go.MapKept
def strK (l : List UInt8) : Value := .string (bs l)
theorem strK_key : KeyF .string strK := ⟨fun a => by simp [IsKey, strK], fun a b h => bs_inj (by simpa [strK] using h)⟩
abbrev SEs := List (List UInt8 × Value)
/-- A map from strings, its entries in the order in which they came. -/
def Own.smap (g : Nat) (l : SEs) : Own where
  blks := [g]
  at' w := ∃ es clock, w.heap[g]? = some (.map es clock) ∧ es.toList.map (fun e => (e.key, e.val)) = l.map (fun p => (strK p.1, p.2)) ∧ Stamped es clock
  lt' w h b hb := by
    simp only [List.mem_singleton] at hb
    subst hb
    obtain ⟨es, c, h1, _⟩ := h
    exact (Array.getElem?_eq_some_iff.1 h1).1
  kept' w w' h hk := by
    obtain ⟨es, c, h1, h2⟩ := h
    exact ⟨es, c, (hk g (by simp)).trans h1, h2⟩
section
variable {P : Program} {n : Nat} {ops : Array Oper} {Q : Exit → Act → World → Prop} {i : Nat} {fr : Fr} {w w0 : World} {z : Zone} {F : List Nat} {os : List Own}
variable {K : Fr → World → Prop} {d : Option Tmp} {ty : TypeId} {pos : String} {aft : Array Edge} {g : Option (Nat × Bool)}
theorem Hp.sm_at (hH : Hp w0 w z F os) (j : Nat) {m : Nat} {l : SEs} (hk : os[j]? = some (.smap m l)) :
    ∃ es clock, w.heap[m]? = some (.map es clock) ∧ es.toList.map (fun e => (e.key, e.val)) = l.map (fun p => (strK p.1, p.2)) ∧ Stamped es clock := hH.own _ (List.mem_of_getElem? hk)
theorem Hp.sm_set (hH : Hp w0 w z F os) (j : Nat) {m : Nat} {l l' : SEs} (hk : os[j]? = some (.smap m l)) {es : Array MapEntry} {clock : Nat} (he : es.toList.map (fun e => (e.key, e.val)) = l'.map (fun p => (strK p.1, p.2))) (hs : Stamped es clock) :
    Hp w0 { w with heap := w.heap.setIfInBounds m (.map es clock) } z F (os.set j (.smap m l')) := by
  obtain ⟨es0, c0, h1, _⟩ := hH.sm_at j hk
  refine hH.turn j hk (some m) (fun g e => by cases e; simp [Own.smap]) ⟨rfl, rfl, rfl, by simp, fun k _ hk => (Go.MapKept.heap_set h1).2 k (fun e => hk (by rw [e]))⟩ ⟨es, clock, (Go.MapKept.heap_set h1).1, he, hs⟩ (fun g hg => .inl hg) (by simp [Own.smap])
theorem st_makeSm {t : TypeId} (hi : ops[i]? = some ⟨d, .makeMap t none, ty, pos, aft, g⟩) (hg : guardV ops fr ⟨d, .makeMap t none, ty, pos, aft, g⟩ = some true) (hs : (dok n d && knowns fr (.makeMap t none) && true) = true)
    (hH : Hp w0 w z F os) (h : ∀ b w', Hp w0 w' z F (os ++ [.smap b []]) → K (pf fr d (.map (some b))) w') : ST P n ops Q i K fr w := by
  refine st_run hi hg hs (.map (some w.heap.size)) (w.alloc (.map #[] 0)) ?_ (h w.heap.size _ (hH.call ?_))
  · simp [execOp, Instr.makeMap, newObj, Sem.run, Result.andThen]
  · refine ⟨rfl, rfl, rfl, by simp, fun k hk _ => Below.heap_alloc _ _ _ hk, fun a v h => by simp at h, ?_, by simp [blksOf, Own.smap], ?_⟩
    · intro o ho
      simp only [List.mem_singleton] at ho
      subst ho
      exact ⟨#[], 0, heap_alloc_new w _, by simp, stamped_empty 0⟩
    · intro g hg
      simp only [blksOf, List.flatMap_cons, Own.smap, List.flatMap_nil, List.append_nil, List.mem_singleton] at hg
      exact ⟨.inl (by omega), fun _ _ => rfl⟩
theorem run_smget {t kt e : TypeId} (j : Nat) (ht : mapT P t = some (kt, e)) (hd : P.underlying kt = some .string) {zv : Value} (hz : zeroT P e = some zv) (hH : Hp w0 w z F os) {m : Nat} {l : SEs} (hk : os[j]? = some (.smap m l)) (k : List UInt8) :
    (Instr.lookup t (.map (some m)) (strK k) false).run P w = .ok ((kget l k).getD zv) w := by
  obtain ⟨es, c, h1, h2, _⟩ := hH.sm_at j hk
  obtain ⟨inf, z1, z2⟩ := Option.bind_eq_some_iff.1 hz
  have hfn := findNow_map strK_key k es.toList l 0 h2
  unfold kget
  cases hkf : kfind k l 0 with
  | none =>
    rw [hkf] at hfn
    simp [Instr.lookup, run_underlying (underlying_of_map ht), Go.MapKept.run_getObj_map h1, Go.MapKept.run_checkKey hd (strK_key.key k), Go.MapKept.run_findKey hd hfn, zeroValue, typeInfo, z1, z2, Result.andThen]
  | some p =>
    rw [hkf] at hfn
    simp [Instr.lookup, run_underlying (underlying_of_map ht), Go.MapKept.run_getObj_map h1, Go.MapKept.run_checkKey hd (strK_key.key k), Go.MapKept.run_findKey hd hfn, Result.andThen]
theorem rd_smget {t kt e : TypeId} {x y : Operand} (j : Nat) (ht : mapT P t = some (kt, e)) (hd : P.underlying kt = some .string) {zv : Value} (hz : zeroT P e = some zv) (hH : Hp w0 w z F os) {m : Nat} {l : SEs} (hk : os[j]? = some (.smap m l)) (hx : ev fr x = .map (some m)) (k : List UInt8) (hy : ev fr y = .string (bs k)) :
    Runs P fr ⟨d, .lookup t x y false, ty, pos, aft, g⟩ ((kget l k).getD zv) w := by
  have hr := run_smget (P := P) j ht hd hz hH hk k
  unfold strK at hr
  simp [Runs, execOp, hx, hy, hr, Result.andThen]
/-- An entry's value is set; or a new entry comes. -/
def kput (l : SEs) (k : List UInt8) (v : Value) : SEs := match kfind k l 0 with | some (i, _) => l.set i (k, v) | none => l ++ [(k, v)]
theorem kfind_key (k : List UInt8) : ∀ (l : SEs) (i q : Nat) (v : Value), kfind k l i = some (q, v) → ∃ j, q = i + j ∧ ∃ p, l[j]? = some p ∧ p.1 = k
  | [], _, _, _, h => by simp [kfind] at h
  | p :: l, i, q, v, h => by
    unfold kfind at h
    by_cases hp : p.1 = k
    · rw [if_pos hp] at h
      cases h
      exact ⟨0, rfl, p, rfl, hp⟩
    · rw [if_neg hp] at h
      obtain ⟨j, h1, p', h2, h3⟩ := kfind_key k l (i + 1) q v h
      exact ⟨j + 1, by omega, p', by simpa using h2, h3⟩
theorem st_smput {t kt e : TypeId} {x y u : Operand} (j : Nat) (hi : ops[i]? = some ⟨d, .mapUpdate t x y u, ty, pos, aft, g⟩) (hg : guardV ops fr ⟨d, .mapUpdate t x y u, ty, pos, aft, g⟩ = some true) (hs : (dok n d && knowns fr (.mapUpdate t x y u) && true) = true)
    (ht : mapT P t = some (kt, e)) (hd : P.underlying kt = some .string) (hH : Hp w0 w z F os) {m : Nat} {l : SEs} (hk : os[j]? = some (.smap m l)) (hx : ev fr x = .map (some m)) (k : List UInt8) (hy : ev fr y = .string (bs k)) {v : Value} (hv : ev fr u = v)
    (h : ∀ w', Hp w0 w' z F (os.set j (.smap m (kput l k v))) → K (pf fr d undef) w') : ST P n ops Q i K fr w := by
  obtain ⟨es, c, h1, h2, h3⟩ := hH.sm_at j hk
  have hfn := findNow_map strK_key k es.toList l 0 h2
  have hck := Go.MapKept.run_checkKey (P := P) (w := w) hd (strK_key.key k)
  unfold kput at h
  cases hkf : kfind k l 0 with
  | none =>
    rw [hkf] at hfn h
    have hfk := Go.MapKept.run_findKey (P := P) (w := w) hd hfn
    unfold strK at hck hfk
    refine st_run0 hi hg hs { w with heap := w.heap.setIfInBounds m (.map (es.push ⟨strK k, v, c⟩) (c + 1)) } ?_ (h _ (hH.sm_set j hk ?_ ?_))
    · simp [execOp, hx, hy, hv, Instr.mapUpdate, run_underlying (underlying_of_map ht), Go.MapKept.run_getObj_map h1, hck, hfk, Go.MapKept.run_setObj_map _ h1, Result.andThen, strK]
    · simp [h2]
    · refine stamped_push h3 (fun x hx he => ?_)
      have hx2 : (x.key, x.val) ∈ l.map (fun p => (strK p.1, p.2)) := by rw [← h2]; exact List.mem_map.2 ⟨x, hx, rfl⟩
      obtain ⟨p, hp, e⟩ := List.mem_map.1 hx2
      have hpk : p.1 = k := strK_key.inj _ _ (by rw [← he]; exact congrArg Prod.fst e)
      have : ∀ (l : SEs) (i : Nat), kfind k l i = none → ∀ p ∈ l, p.1 ≠ k := by
        intro l
        induction l with
        | nil => intro i _ p hp; simp at hp
        | cons a l ih =>
          intro i hn p hp
          unfold kfind at hn
          by_cases ha : a.1 = k
          · rw [if_pos ha] at hn; cases hn
          · rw [if_neg ha] at hn
            rcases List.mem_cons.1 hp with rfl | hp
            · exact ha
            · exact ih (i + 1) hn p hp
      exact this l 0 hkf p hp hpk
  | some q =>
    obtain ⟨q, u0⟩ := q
    rw [hkf] at hfn h
    have hfk := Go.MapKept.run_findKey (P := P) (w := w) hd hfn
    unfold strK at hck hfk
    obtain ⟨jj, e0, p, e1, e2⟩ := kfind_key k l 0 q u0 hkf
    have e0' : q = jj := by omega
    subst e0'
    have hql : q < l.length := (List.getElem?_eq_some_iff.1 e1).1
    obtain ⟨x0, hx0, hx1⟩ : ∃ x0, es[q]? = some x0 ∧ x0.key = strK k := by
      have h2a := congrArg (fun L => L[q]?) h2
      simp only [List.getElem?_map, e1, Option.map_some] at h2a
      obtain ⟨x0, h4, h5⟩ := Option.map_eq_some_iff.1 h2a
      exact ⟨x0, by simpa using h4, by rw [show x0.key = strK p.1 from congrArg Prod.fst h5, e2]⟩
    have hst := Go.MapKept.run_keyThatStays (P := P) (w := w) (strK_key.key k)
    unfold strK at hst hx1
    refine st_run0 hi hg hs { w with heap := w.heap.setIfInBounds m (.map (es.modify q fun e => { e with key := strK k, val := v }) c) } ?_ (h _ (hH.sm_set j hk ?_ ?_))
    · simp [execOp, hx, hy, hv, Instr.mapUpdate, run_underlying (underlying_of_map ht), Go.MapKept.run_getObj_map h1, hck, hfk, hx0, hx1, hst, Go.MapKept.run_setObj_map _ h1, Result.andThen, strK]
    · apply List.ext_getElem?
      intro a
      have h2a := congrArg (fun L => L[a]?) h2
      simp only [List.getElem?_map] at h2a
      simp only [List.getElem?_map, Array.getElem?_toList, Array.getElem?_modify, List.getElem?_set]
      by_cases ha : q = a
      · subst ha
        simp [hx0, hql]
      · simp only [if_neg ha]
        rw [← h2a, Array.getElem?_toList]
    · refine stamped_modify h3 q _ (fun _ _ => rfl) (fun e' _ he' => ?_)
      rw [hx0] at he'; cases he'
      exact hx1.symm
theorem st_smdel {t t2 kt e : TypeId} {x y : Operand} (j : Nat) (hi : ops[i]? = some ⟨d, .call ⟨.builtin .delete, #[x, y], #[t, t2]⟩, ty, pos, aft, g⟩) (hg : guardV ops fr ⟨d, .call ⟨.builtin .delete, #[x, y], #[t, t2]⟩, ty, pos, aft, g⟩ = some true) (hs : (dok n d && knowns fr (.call ⟨.builtin .delete, #[x, y], #[t, t2]⟩) && true) = true)
    (ht : mapT P t = some (kt, e)) (hd : P.underlying kt = some .string) (hH : Hp w0 w z F os) {m : Nat} {l : SEs} (hk : os[j]? = some (.smap m l)) (hx : ev fr x = .map (some m)) (k : List UInt8) (hy : ev fr y = .string (bs k))
    (h : ∀ w', Hp w0 w' z F (os.set j (.smap m (kdel l k))) → K (pf fr d (.tuple #[])) w') : ST P n ops Q i K fr w := by
  obtain ⟨es, c, h1, h2, h3⟩ := hH.sm_at j hk
  have hfn := findNow_map strK_key k es.toList l 0 h2
  have hck := Go.MapKept.run_checkKey (P := P) (w := w) hd (strK_key.key k)
  unfold kdel at h
  cases hkf : kfind k l 0 with
  | none =>
    rw [hkf] at hfn h
    have hfk := Go.MapKept.run_findKey (P := P) (w := w) hd hfn
    unfold strK at hck hfk
    refine st_run hi hg hs _ { w with heap := w.heap.setIfInBounds m (.map es c) } ?_ (h _ (hH.sm_set j hk h2 h3))
    simp [execOp, resolve, invoke, builtin, Builtin.delete_, hx, hy, run_underlying (underlying_of_map ht), Go.MapKept.run_getObj_map h1, hck, hfk, Go.MapKept.run_setObj_map _ h1, Result.andThen]
  | some p =>
    obtain ⟨q, u⟩ := p
    rw [hkf] at hfn h
    have hfk := Go.MapKept.run_findKey (P := P) (w := w) hd hfn
    unfold strK at hck hfk
    refine st_run hi hg hs _ { w with heap := w.heap.setIfInBounds m (.map (es.eraseIdxIfInBounds q) c) } ?_ (h _ (hH.sm_set j hk ?_ (stamped_erase h3 q)))
    · simp [execOp, resolve, invoke, builtin, Builtin.delete_, hx, hy, run_underlying (underlying_of_map ht), Go.MapKept.run_getObj_map h1, hck, hfk, Go.MapKept.run_setObj_map _ h1, Result.andThen]
    · have hE : (es.eraseIdxIfInBounds q).toList = es.toList.eraseIdx q := by
        unfold Array.eraseIdxIfInBounds
        split
        · simp
        · rw [List.eraseIdx_of_length_le (by simpa using by omega)]
      rw [hE, map_eraseIdx, h2, ← map_eraseIdx]
end
end Go.SW
