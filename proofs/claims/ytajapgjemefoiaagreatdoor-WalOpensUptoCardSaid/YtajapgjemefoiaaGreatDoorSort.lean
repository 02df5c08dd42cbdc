/-
  DERIVED: THE SHELF's CONTRACTS AT THIS DUMP, IN PLAIN WORDS (tools/lay-plain.mjs out of 'TryzSortT.lean', which tools/lay-shelf.mjs wrote): THE SAME DECLARATIONS UNDER THE SAME NAMES: 'import', 'namespace', 'open', 'def', 'theorem' AND NOTHING ELSE: no command of the shelf's: FOR A HAND-IN. Each laying: the table of numbers ('.._ren') and one theorem, a field a fact of the dump's own or the kernel's comparison; each contract: ONE APPLICATION.
-/
import Derived.Shelf.SlSortCmp.NoneTotal
import Derived.Ground.SlsfProg
import Derived.Test.YtajapgjemefoiaaGreatDoorProg
namespace Go.Proofs
open Go.Shelf
def Tryz.sortPart_ren : Go.Shelf.Ren := ⟨fun | 6 => 68 | 15 => 108 | 14 => 107 | 28 => 138 | 29 => 139 | 20 => 130 | 21 => 131 | 22 => 132 | 23 => 133 | 24 => 134 | 25 => 135 | 26 => 136 | 27 => 137 | 46 => 155 | 47 => 156 | 48 => 157 | 49 => 158 | 50 => 159 | 57 => 168 | n => n, fun | 22 => 97 | 24 => 106 | 25 => 138 | 3 => 3 | 39 => 183 | 0 => 0 | 53 => 224 | 55 => 226 | 4 => 4 | 46 => 218 | 45 => 217 | 50 => 76 | 5 => 5 | 9 => 9 | 66 => 236 | 70 => 173 | 76 => 247 | 77 => 54 | n => n, fun | n => n⟩
theorem Tryz.sortPart : Go.Proofs.SlLaysF0.n6 Tryz.prog Tryz.sortPart_ren := {
  mixed := by kernel_rfl
  f6 := ⟨Tryz.f68.name, by decide, Tryz.func68.trans (congrArg some (by kernel_rfl))⟩
  f14 := ⟨Tryz.f107.name, by decide, Tryz.func107.trans (congrArg some (by kernel_rfl))⟩
  f15 := Tryz.func108.trans (congrArg some (by kernel_rfl))
  f20 := ⟨Tryz.f130.name, by decide, Tryz.func130.trans (congrArg some (by kernel_rfl))⟩
  f21 := ⟨Tryz.f131.name, by decide, Tryz.func131.trans (congrArg some (by kernel_rfl))⟩
  f22 := ⟨Tryz.f132.name, by decide, Tryz.func132.trans (congrArg some (by kernel_rfl))⟩
  f23 := ⟨Tryz.f133.name, by decide, Tryz.func133.trans (congrArg some (by kernel_rfl))⟩
  f24 := ⟨Tryz.f134.name, by decide, Tryz.func134.trans (congrArg some (by kernel_rfl))⟩
  f25 := ⟨Tryz.f135.name, by decide, Tryz.func135.trans (congrArg some (by kernel_rfl))⟩
  f26 := ⟨Tryz.f136.name, by decide, Tryz.func136.trans (congrArg some (by kernel_rfl))⟩
  f27 := ⟨Tryz.f137.name, by decide, Tryz.func137.trans (congrArg some (by kernel_rfl))⟩
  f28 := Tryz.func138.trans (congrArg some (by kernel_rfl))
  f29 := Tryz.func139.trans (congrArg some (by kernel_rfl))
  f46 := ⟨Tryz.f155.name, by decide, Tryz.func155.trans (congrArg some (by kernel_rfl))⟩
  f47 := Tryz.func156.trans (congrArg some (by kernel_rfl))
  f48 := Tryz.func157.trans (congrArg some (by kernel_rfl))
  f49 := ⟨Tryz.f158.name, by decide, Tryz.func158.trans (congrArg some (by kernel_rfl))⟩
  f50 := ⟨Tryz.f159.name, by decide, Tryz.func159.trans (congrArg some (by kernel_rfl))⟩
  f57 := ⟨Tryz.f168.name, by decide, Tryz.func168.trans (congrArg some (by kernel_rfl))⟩
  t0 := Tryz.underlying0
  a0 := Tryz.isAgg0
  z0 := Tryz.sizeOf0
  v0 := Tryz.zeroValue0
  t3 := Tryz.underlying3
  a3 := Tryz.isAgg3
  z3 := Tryz.sizeOf3
  v3 := Tryz.zeroValue3
  t4 := Tryz.underlying4
  a4 := Tryz.isAgg4
  z4 := Tryz.sizeOf4
  v4 := Tryz.zeroValue4
  t5 := Tryz.underlying5
  a5 := Tryz.isAgg5
  z5 := Tryz.sizeOf5
  v5 := Tryz.zeroValue5
  t9 := Tryz.underlying9
  a9 := Tryz.isAgg9
  z9 := Tryz.sizeOf9
  v9 := Tryz.zeroValue9
  t22 := Tryz.underlying97
  a22 := Tryz.isAgg97
  z22 := Tryz.sizeOf97
  v22 := Tryz.zeroValue97
  t25 := Tryz.underlying138
  a25 := Tryz.isAgg138
  z25 := Tryz.sizeOf138
  v25 := Tryz.zeroValue138
  t39 := Tryz.underlying183
  a39 := Tryz.isAgg183
  z39 := Tryz.sizeOf183
  v39 := Tryz.zeroValue183
  t45 := Tryz.underlying217
  a45 := Tryz.isAgg217
  z45 := Tryz.sizeOf217
  v45 := Tryz.zeroValue217
  t46 := Tryz.underlying218
  a46 := Tryz.isAgg218
  z46 := Tryz.sizeOf218
  v46 := Tryz.zeroValue218
  t50 := Tryz.underlying76
  a50 := Tryz.isAgg76
  z50 := Tryz.sizeOf76
  v50 := Tryz.zeroValue76
  t53 := Tryz.underlying224
  a53 := Tryz.isAgg224
  z53 := Tryz.sizeOf224
  v53 := Tryz.zeroValue224
  t55 := Tryz.underlying226
  a55 := Tryz.isAgg226
  z55 := Tryz.sizeOf226
  v55 := Tryz.zeroValue226
  t66 := Tryz.underlying236
  a66 := Tryz.isAgg236
  z66 := Tryz.sizeOf236
  v66 := Tryz.zeroValue236
  t70 := Tryz.underlying173
  a70 := Tryz.isAgg173
  z70 := Tryz.sizeOf173
  v70 := Tryz.zeroValue173
  t76 := Tryz.underlying247
  a76 := Tryz.isAgg247
  z76 := Tryz.sizeOf247
  v76 := Tryz.zeroValue247
  t77 := Tryz.underlying54
  a77 := Tryz.isAgg54
  z77 := Tryz.sizeOf54
  v77 := Tryz.zeroValue54 }
end Go.Proofs
