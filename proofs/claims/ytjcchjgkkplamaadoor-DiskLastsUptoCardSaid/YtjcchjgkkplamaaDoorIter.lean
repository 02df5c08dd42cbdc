/-
  DERIVED: THE SHELF's CONTRACTS AT THIS DUMP, IN PLAIN WORDS (tools/lay-plain.mjs out of 'TrydIterT.lean', which tools/lay-shelf.mjs wrote): THE SAME DECLARATIONS UNDER THE SAME NAMES: 'import', 'namespace', 'open', 'def', 'theorem' AND NOTHING ELSE: no command of the shelf's: FOR A HAND-IN. Each laying: the table of numbers ('.._ren') and one theorem, a field a fact of the dump's own or the kernel's comparison; each contract: ONE APPLICATION.
-/
import Derived.Shelf.SlGeneric
import Derived.Shelf.SlIter.Nil
import Derived.Shelf.SortM.Plain
import Derived.Shelf.SortM.SortNone
import Derived.Ground.GgzProg
import Derived.Ground.SlgmProg
import Derived.Test.YtjcchjgkkplamaaDoorProg
namespace Go.Proofs
open Go.Shelf
def Tryd.keys72_ren : Go.Shelf.Ren := ⟨fun | 7 => 72 | 10 => 105 | n => n, fun | 23 => 125 | 26 => 9 | 3 => 136 | 28 => 134 | 0 => 0 | 27 => 133 | 33 => 176 | 4 => 4 | n => n, fun | n => n⟩
theorem Tryd.keys72 : Go.Proofs.SlLaysZ.n7 Tryd.prog Tryd.keys72_ren := {
  mixed := by kernel_rfl
  f7 := ⟨Tryd.f72.name, by decide, Tryd.func72.trans (congrArg some (by kernel_rfl))⟩
  f10 := ⟨Tryd.f105.name, by decide, Tryd.func105.trans (congrArg some (by kernel_rfl))⟩
  t0 := Tryd.underlying0
  a0 := Tryd.isAgg0
  z0 := Tryd.sizeOf0
  v0 := Tryd.zeroValue0
  t4 := Tryd.underlying4
  a4 := Tryd.isAgg4
  z4 := Tryd.sizeOf4
  v4 := Tryd.zeroValue4
  t23 := Tryd.underlying125
  a23 := Tryd.isAgg125
  z23 := Tryd.sizeOf125
  v23 := Tryd.zeroValue125
  t26 := Tryd.underlying9
  a26 := Tryd.isAgg9
  z26 := Tryd.sizeOf9
  v26 := Tryd.zeroValue9
  t27 := Tryd.underlying133
  a27 := Tryd.isAgg133
  z27 := Tryd.sizeOf133
  v27 := Tryd.zeroValue133
  t28 := Tryd.underlying134
  a28 := Tryd.isAgg134
  z28 := Tryd.sizeOf134
  v28 := Tryd.zeroValue134
  t33 := Tryd.underlying176
  a33 := Tryd.isAgg176
  z33 := Tryd.sizeOf176
  v33 := Tryd.zeroValue176 }
def Tryd.sorted71_ren : Go.Shelf.Ren := ⟨fun | 6 => 71 | 8 => 103 | 9 => 104 | 11 => 113 | 13 => 78 | 12 => 114 | 23 => 107 | 24 => 108 | 14 => 117 | 15 => 118 | 16 => 119 | 17 => 120 | 18 => 121 | 19 => 122 | 20 => 123 | 21 => 124 | 22 => 125 | 25 => 130 | 26 => 131 | 27 => 132 | 28 => 133 | 29 => 134 | 30 => 135 | 31 => 136 | n => n, fun | 26 => 9 | 28 => 134 | 24 => 55 | 0 => 0 | 3 => 3 | 37 => 67 | 48 => 178 | 50 => 156 | 4 => 4 | 40 => 199 | 39 => 198 | 45 => 169 | 5 => 5 | 9 => 9 | 51 => 206 | 55 => 210 | 57 => 212 | 58 => 213 | 33 => 176 | n => n, fun | n => n⟩
theorem Tryd.sorted71 : Go.Proofs.SlLaysZ.n6 Tryd.prog Tryd.sorted71_ren := {
  mixed := by kernel_rfl
  f6 := ⟨Tryd.f71.name, by decide, Tryd.func71.trans (congrArg some (by kernel_rfl))⟩
  f8 := ⟨Tryd.f103.name, by decide, Tryd.func103.trans (congrArg some (by kernel_rfl))⟩
  f11 := ⟨Tryd.f113.name, by decide, Tryd.func113.trans (congrArg some (by kernel_rfl))⟩
  t0 := Tryd.underlying0
  a0 := Tryd.isAgg0
  z0 := Tryd.sizeOf0
  v0 := Tryd.zeroValue0
  t24 := Tryd.underlying55
  a24 := Tryd.isAgg55
  z24 := Tryd.sizeOf55
  v24 := Tryd.zeroValue55
  t26 := Tryd.underlying9
  a26 := Tryd.isAgg9
  z26 := Tryd.sizeOf9
  v26 := Tryd.zeroValue9
  t28 := Tryd.underlying134
  a28 := Tryd.isAgg134
  z28 := Tryd.sizeOf134
  v28 := Tryd.zeroValue134
  i26 := by kernel_rfl }
def Tryd.sort104_ren : Go.Shelf.Ren := ⟨fun | 6 => 104 | 8 => 78 | 9 => 114 | 19 => 107 | 20 => 108 | 21 => 117 | 22 => 118 | 23 => 119 | 24 => 120 | 25 => 121 | 26 => 122 | 27 => 123 | 28 => 124 | 29 => 125 | 36 => 130 | 31 => 131 | 32 => 132 | 37 => 133 | 38 => 134 | 39 => 135 | 41 => 136 | n => n, fun | 27 => 55 | 29 => 9 | 3 => 3 | 32 => 67 | 26 => 55 | 0 => 0 | 44 => 178 | 46 => 156 | 4 => 4 | 36 => 199 | 35 => 198 | 41 => 169 | 5 => 5 | 9 => 9 | 53 => 206 | 57 => 210 | 63 => 212 | 64 => 213 | n => n, fun | n => n⟩
theorem Tryd.sort104 : Go.Proofs.SlLaysM.n6 Tryd.prog Tryd.sort104_ren := {
  mixed := by kernel_rfl
  f6 := ⟨Tryd.f104.name, by decide, Tryd.func104.trans (congrArg some (by kernel_rfl))⟩
  f8 := Tryd.func78.trans (congrArg some (by kernel_rfl))
  f9 := ⟨Tryd.f114.name, by decide, Tryd.func114.trans (congrArg some (by kernel_rfl))⟩
  f19 := Tryd.func107.trans (congrArg some (by kernel_rfl))
  f20 := Tryd.func108.trans (congrArg some (by kernel_rfl))
  f21 := ⟨Tryd.f117.name, by decide, Tryd.func117.trans (congrArg some (by kernel_rfl))⟩
  f22 := ⟨Tryd.f118.name, by decide, Tryd.func118.trans (congrArg some (by kernel_rfl))⟩
  f23 := ⟨Tryd.f119.name, by decide, Tryd.func119.trans (congrArg some (by kernel_rfl))⟩
  f24 := ⟨Tryd.f120.name, by decide, Tryd.func120.trans (congrArg some (by kernel_rfl))⟩
  f25 := ⟨Tryd.f121.name, by decide, Tryd.func121.trans (congrArg some (by kernel_rfl))⟩
  f26 := ⟨Tryd.f122.name, by decide, Tryd.func122.trans (congrArg some (by kernel_rfl))⟩
  f27 := ⟨Tryd.f123.name, by decide, Tryd.func123.trans (congrArg some (by kernel_rfl))⟩
  f28 := ⟨Tryd.f124.name, by decide, Tryd.func124.trans (congrArg some (by kernel_rfl))⟩
  f29 := ⟨Tryd.f125.name, by decide, Tryd.func125.trans (congrArg some (by kernel_rfl))⟩
  f31 := Tryd.func131.trans (congrArg some (by kernel_rfl))
  f32 := Tryd.func132.trans (congrArg some (by kernel_rfl))
  f36 := ⟨Tryd.f130.name, by decide, Tryd.func130.trans (congrArg some (by kernel_rfl))⟩
  f37 := ⟨Tryd.f133.name, by decide, Tryd.func133.trans (congrArg some (by kernel_rfl))⟩
  f38 := ⟨Tryd.f134.name, by decide, Tryd.func134.trans (congrArg some (by kernel_rfl))⟩
  f39 := ⟨Tryd.f135.name, by decide, Tryd.func135.trans (congrArg some (by kernel_rfl))⟩
  f41 := ⟨Tryd.f136.name, by decide, Tryd.func136.trans (congrArg some (by kernel_rfl))⟩
  t0 := Tryd.underlying0
  a0 := Tryd.isAgg0
  z0 := Tryd.sizeOf0
  v0 := Tryd.zeroValue0
  t3 := Tryd.underlying3
  a3 := Tryd.isAgg3
  z3 := Tryd.sizeOf3
  v3 := Tryd.zeroValue3
  t4 := Tryd.underlying4
  a4 := Tryd.isAgg4
  z4 := Tryd.sizeOf4
  v4 := Tryd.zeroValue4
  t5 := Tryd.underlying5
  a5 := Tryd.isAgg5
  z5 := Tryd.sizeOf5
  v5 := Tryd.zeroValue5
  t9 := Tryd.underlying9
  a9 := Tryd.isAgg9
  z9 := Tryd.sizeOf9
  v9 := Tryd.zeroValue9
  t26 := Tryd.underlying55
  a26 := Tryd.isAgg55
  z26 := Tryd.sizeOf55
  v26 := Tryd.zeroValue55
  t27 := Tryd.underlying55
  a27 := Tryd.isAgg55
  z27 := Tryd.sizeOf55
  v27 := Tryd.zeroValue55
  t29 := Tryd.underlying9
  a29 := Tryd.isAgg9
  z29 := Tryd.sizeOf9
  v29 := Tryd.zeroValue9
  t32 := Tryd.underlying67
  a32 := Tryd.isAgg67
  z32 := Tryd.sizeOf67
  v32 := Tryd.zeroValue67
  t35 := Tryd.underlying198
  a35 := Tryd.isAgg198
  z35 := Tryd.sizeOf198
  v35 := Tryd.zeroValue198
  t36 := Tryd.underlying199
  a36 := Tryd.isAgg199
  z36 := Tryd.sizeOf199
  v36 := Tryd.zeroValue199
  t41 := Tryd.underlying169
  a41 := Tryd.isAgg169
  z41 := Tryd.sizeOf169
  v41 := Tryd.zeroValue169
  t44 := Tryd.underlying178
  a44 := Tryd.isAgg178
  z44 := Tryd.sizeOf178
  v44 := Tryd.zeroValue178
  t46 := Tryd.underlying156
  a46 := Tryd.isAgg156
  z46 := Tryd.sizeOf156
  v46 := Tryd.zeroValue156
  t53 := Tryd.underlying206
  a53 := Tryd.isAgg206
  z53 := Tryd.sizeOf206
  v53 := Tryd.zeroValue206
  t57 := Tryd.underlying210
  a57 := Tryd.isAgg210
  z57 := Tryd.sizeOf210
  v57 := Tryd.zeroValue210
  t63 := Tryd.underlying212
  a63 := Tryd.isAgg212
  z63 := Tryd.sizeOf212
  v63 := Tryd.zeroValue212
  t64 := Tryd.underlying213
  a64 := Tryd.isAgg213
  z64 := Tryd.sizeOf213
  v64 := Tryd.zeroValue213 }
open Go.RowKit Go.Maps Go.Sort in
/-- slices.Sort's two contracts at this dump, at the fence that asks nothing. -/
theorem Tryd.sorts71 (m : Nat) : AnyZ.SortsIn Tryd.prog Tryd.sorted71_ren Fence.wide m :=
  ⟨fun blk off cap ss W hH hblk hsz => callsIn_wide.2 (AnyM.slices_Sort_string Tryd.sort104 blk off cap ss W hH hblk hsz),
   fun p cap W => callsIn_wide.2 (AnyM.slices_Sort_string_none Tryd.sort104 p cap W)⟩
open Go.RowKit Go.Maps Go.Sort in
/-- **maps.Keys[map[string]*muntin/disk.file,string,*muntin/disk.file], at whatever map, the nil one too:** a function value over ONE NEW BLOCK, which holds the map. -/
theorem Tryd.maps_Keys_72 (mb : Option Nat) (W : World) : CallsIn Fence.wide 5 Tryd.prog 72 #[.map mb] W fun e w' => e = .returned (.func (.func 105) #[] #[.pointer (some ⟨W.heap.size, 0, none⟩)]) ∧ w' = W.alloc (.cells #[.map mb] 125) :=
  AnyZ.keys_in Tryd.keys72 Fence.wide 5 trivial rfl mb W
open Go.RowKit Go.Maps Go.Sort in
/-- **slices.Sorted[string] AT WHAT maps.Keys[map[string]*muntin/disk.file,string,*muntin/disk.file] HANDED BACK FOR A MAP THAT IS NOT nil** ('w': the world AHEAD of maps.Keys' call): A NEW SLICE THAT HOLDS THE MAP's KEYS, SORTED; nil just where it has none; nothing that lay before has turned. -/
theorem Tryd.slices_Sorted_keys_71_72 {H : Type} (b nn : Nat) (D0 : DataW H) (R : Value → Option (DataW H × List MemPlace)) (w : World) (hown : w.ownsMap Tryd.prog 9 R b nn D0) (hmax : Maps.size D0 ≤ maxLen) (hbytes : Maps.size D0 * 16 ≤ 140737488355328) :
    CallsIn Fence.wide 5 Tryd.prog 71 #[.func (.func 105) #[] #[.pointer (some ⟨w.heap.size, 0, none⟩)]] (w.alloc (.cells #[.map (some b)] 125)) fun e w' => ∃ (v : Value) (ss : List (List UInt8)), e = .returned v ∧ ss.Perm (strKeys D0) ∧
      w'.ownsRow (w.alloc (.cells #[.map (some b)] 125)).heap.size 9 1 v ss.length ((ss.mergeSort (fun x y => decide (x ≤ y))).map encStr) ∧ (v = .slice none 0 0 ↔ ss = []) ∧ Below (w.alloc (.cells #[.map (some b)] 125)).heap.size (w.alloc (.cells #[.map (some b)] 125)) w' := by
  have hbl := hown.lt
  have hseq : SeqGives Fence.wide 2 Tryd.prog 105 #[.pointer (some ⟨w.heap.size, 0, none⟩)] encStr (fun ss => ss.Perm (strKeys D0)) (Maps.size D0) (w.alloc (.cells #[.map (some b)] 125)) :=
    AnyZ.keys_gives (ρ := Tryd.keys72_ren) { Tryd.keys72 with } Fence.wide _ trivial rfl (by omega) w.heap.size b nn D0 _ (by simp) (by simp) (by
      obtain ⟨es, clock, hb, Ft, hs, hD⟩ := hown
      exact ⟨es, clock, (Below.heap_alloc _ _ b hbl).trans hb, Ft, hs, hD⟩)
  exact AnyZ.sorted_in Tryd.sorted71 Fence.wide 5 trivial trivial trivial trivial rfl (by omega) (Tryd.sorts71 _) (enters_of Tryd.func104 (by kernel_rfl) rfl) 105 #[.pointer (some ⟨w.heap.size, 0, none⟩)] trivial (enters_of Tryd.func105 (by kernel_rfl) rfl) _ _ hmax hbytes _ hseq
end Go.Proofs
