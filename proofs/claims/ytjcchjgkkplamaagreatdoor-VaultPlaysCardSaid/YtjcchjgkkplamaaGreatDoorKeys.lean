/- slices.Sorted(maps.Keys(m)) over a map from strings that the call owns: its keys in order. -/
import Derived.Test.YtjcchjgkkplamaaGreatDoorCalc
import Derived.Test.YtjcchjgkkplamaaGreatDoorIter
import Derived.Test.YtjcchjgkkplamaaGreatDoorProg
set_option linter.unusedVariables false
set_option maxRecDepth 100000
namespace Go.Proofs.YtjcchjgkkplamaaGreatDoor
open Go Go.RowKit Go.SW Go.Maps Go.Sort
open Go.WideElems (Fit rd rg rd_mk rg_of)
def anyR : Value → Option (DataW Unit × List MemPlace) := fun _ => some (.nil, [])
def unK : Value → List UInt8
  | .string s => s.data.toList
  | _ => []
theorem keyOf_strK {P : Program} {k : TypeId} (hd : P.underlying k = some .string) {x : List UInt8} (hx : x.length ≤ maxLen) : keyOf P k (strK x) = some (.string x) := by
  have h : (bs x).size ≤ maxLen := by rw [bs_size]; exact hx
  unfold bs at h
  simp [keyOf, hd, mapKey, strK, h, bs]
theorem ownsMap_sm {w : World} {P : Program} {k : TypeId} {m : Nat} {l : SEs} (hd : P.underlying k = some .string) (hm : (Own.smap m l).at w) (hl : ∀ p ∈ l, p.1.length ≤ maxLen) (hn : l.length ≤ maxLen) :
    ∃ D0 : DataW Unit, w.ownsMap P k anyR m l.length D0 ∧ (strKeys D0).Perm (l.map (·.1)) ∧ Maps.size D0 = l.length := by
  obtain ⟨es, clock, h1, h2, h3⟩ := hm
  have hsz : es.size = l.length := by have := congrArg List.length h2; simpa using this
  have hmem : ∀ x ∈ es.toList, ∃ p ∈ l, x.key = strK p.1 := by
    intro x hx
    have hx2 : (x.key, x.val) ∈ l.map (fun p => (strK p.1, p.2)) := by rw [← h2]; exact List.mem_map.2 ⟨x, hx, rfl⟩
    obtain ⟨p, hp, e⟩ := List.mem_map.1 hx2
    exact ⟨p, hp, (congrArg Prod.fst e).symm⟩
  have hrd : ∀ x ∈ es.toList, rd P k anyR x = some (.string (unK x.key), .nil) := by
    rintro ⟨key, val, born⟩ hx
    obtain ⟨p, hp, e⟩ := hmem _ hx
    simp only at e
    subst e
    exact rd_mk (R := anyR) (keyOf_strK hd (hl p hp)) rfl
  refine ⟨_, ⟨es, clock, h1, ⟨by omega, h3, fun x hx => ⟨_, hrd x hx⟩⟩, by omega, rfl⟩, ?_, ?_⟩
  · have hp := ((WideShapes.sorted_perm (es.toList.map (rg P k anyR))).map fun p => strOf p.1)
    have e : ((es.toList.map (rg P k anyR)).map fun p => strOf p.1) = l.map (·.1) := by
      rw [List.map_map]
      have e1 : es.toList.map ((fun p : Lit × DataW Unit => strOf p.1) ∘ rg P k anyR) = (es.toList.map (fun e => (e.key, e.val))).map (fun q => unK q.1) := by
        rw [List.map_map]
        refine List.map_congr_left fun x hx => ?_
        simp only [Function.comp_apply, rg_of (hrd x hx), strOf]
      rw [e1, h2, List.map_map]
      refine List.map_congr_left fun x _ => ?_
      simp [strK, unK, bs]
    rw [e] at hp
    exact hp
  · show (((es.toList.map (rg P k anyR)).foldr DataW.insert [])).length = l.length
    rw [length_sorted]; simpa using hsz
theorem MapsKeys_ct (m : Nat) (w : World) : Fun Tryz.prog 32 [.map (some m)] w fun v w' =>
    ∃ b, v = .func (.func 66) #[] #[.pointer (some ⟨b, 0, none⟩)] ∧ Fresh w w' [.blk b 67 [.map (some m)]] := by
  refine Calls.mono (callsIn_wide.1 (Tryz.maps_Keys_32 (some m) w)) ?_
  rintro e w' ⟨rfl, rfl⟩
  exact ⟨_, rfl, w.heap.size, rfl, Fresh.alloc w [.map (some m)] 67⟩
theorem SortedKeys_ct (b m : Nat) (l : SEs) (w : World) (hb : w.cell? ⟨b, 0, none⟩ = some (.map (some m))) (hm : (Own.smap m l).at w) (hl : ∀ p ∈ l, p.1.length ≤ maxLen) (hn : l.length ≤ 1000000) :
    Fun Tryz.prog 31 [.func (.func 66) #[] #[.pointer (some ⟨b, 0, none⟩)]] w fun v w' =>
      ∃ (ss : List (List UInt8)) (v1 : Value), v = v1 ∧ ss.Perm (l.map (·.1)) ∧ Fresh w w' [.row v1 9 1 ss.length ((ss.mergeSort fun x y => decide (x ≤ y)).map fun s => .string (bs s))] := by
  obtain ⟨D0, h1, h2, h3⟩ := ownsMap_sm (P := Tryz.prog) (k := 9) (by kernel_rfl) hm hl (by unfold maxLen; omega)
  have hblt : b < w.heap.size := World.block_lt_of_cell? w ⟨b, 0, none⟩ hb
  have hseq : SeqGives Fence.wide 2 Tryz.prog 66 #[.pointer (some ⟨b, 0, none⟩)] encStr (fun ss => ss.Perm (strKeys D0)) (Maps.size D0) w :=
    AnyZ.keys_gives (ρ := Tryz.keys32_ren) { Tryz.keys32 with } Fence.wide _ trivial rfl (by omega) b m _ D0 w hblt hb h1
  have h4 := AnyZ.sorted_in Tryz.sorted31 Fence.wide 5 trivial trivial trivial trivial rfl (by omega) (Tryz.sorts31 _) (enters_of Tryz.func65 (by kernel_rfl) rfl) 66 #[.pointer (some ⟨b, 0, none⟩)] trivial (enters_of Tryz.func66 (by kernel_rfl) rfl) _ _ (by rw [h3]; unfold maxLen; omega) (by rw [h3]; omega) w hseq
  refine Calls.mono (callsIn_wide.1 h4) ?_
  rintro e w' ⟨v, ss, rfl, hS, hrow, _, hB⟩
  exact ⟨v, rfl, ss, v, rfl, hS.trans h2, Fresh.row hB hrow⟩
end Go.Proofs.YtjcchjgkkplamaaGreatDoor
