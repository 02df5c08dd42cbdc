/-
  DERIVED: THE SHELF's CONTRACTS AT THIS DUMP, IN PLAIN WORDS (tools/lay-plain.mjs out of 'TryzIterT.lean', which tools/lay-shelf.mjs wrote): THE SAME DECLARATIONS UNDER THE SAME NAMES: 'import', 'namespace', 'open', 'def', 'theorem' AND NOTHING ELSE: no command of the shelf's: FOR A HAND-IN. Each laying: the table of numbers ('.._ren') and one theorem, a field a fact of the dump's own or the kernel's comparison; each contract: ONE APPLICATION.
-/
import Derived.Shelf.SlGeneric
import Derived.Shelf.SlIterI.Nil
import Derived.Shelf.SortM.Plain
import Derived.Shelf.SortM.SortNone
import Derived.Ground.GgzProg
import Derived.Ground.SlgmProg
import Derived.Test.YtllfpnbhjfadiaaGreatDoorProg
namespace Go.Proofs
open Go.Shelf
def Tryz.keysI_ren : Go.Shelf.Ren := ⟨fun | 7 => 114 | 10 => 148 | n => n, fun | 23 => 199 | 26 => 3 | 3 => 4 | 28 => 203 | 0 => 0 | 27 => 202 | 33 => 168 | 4 => 4 | n => n, fun | n => n⟩
theorem Tryz.keysI : Go.Proofs.SlLaysZI.n7 Tryz.prog Tryz.keysI_ren := {
  mixed := by kernel_rfl
  f7 := ⟨Tryz.f114.name, by decide, Tryz.func114.trans (congrArg some (by kernel_rfl))⟩
  f10 := ⟨Tryz.f148.name, by decide, Tryz.func148.trans (congrArg some (by kernel_rfl))⟩
  t0 := Tryz.underlying0
  a0 := Tryz.isAgg0
  z0 := Tryz.sizeOf0
  v0 := Tryz.zeroValue0
  t4 := Tryz.underlying4
  a4 := Tryz.isAgg4
  z4 := Tryz.sizeOf4
  v4 := Tryz.zeroValue4
  t23 := Tryz.underlying199
  a23 := Tryz.isAgg199
  z23 := Tryz.sizeOf199
  v23 := Tryz.zeroValue199
  t26 := Tryz.underlying3
  a26 := Tryz.isAgg3
  z26 := Tryz.sizeOf3
  v26 := Tryz.zeroValue3
  t27 := Tryz.underlying202
  a27 := Tryz.isAgg202
  z27 := Tryz.sizeOf202
  v27 := Tryz.zeroValue202
  t28 := Tryz.underlying203
  a28 := Tryz.isAgg203
  z28 := Tryz.sizeOf203
  v28 := Tryz.zeroValue203
  t33 := Tryz.underlying168
  a33 := Tryz.isAgg168
  z33 := Tryz.sizeOf168
  v33 := Tryz.zeroValue168 }
def Tryz.sortedI_ren : Go.Shelf.Ren := ⟨fun | 6 => 113 | 8 => 146 | 9 => 147 | 11 => 178 | 13 => 134 | 12 => 179 | 23 => 161 | 24 => 162 | 14 => 204 | 15 => 205 | 16 => 206 | 17 => 207 | 18 => 208 | 19 => 209 | 20 => 210 | 21 => 211 | 22 => 212 | 25 => 238 | 26 => 239 | 27 => 240 | 28 => 241 | 29 => 242 | 30 => 243 | 31 => 267 | n => n, fun | 26 => 3 | 28 => 203 | 24 => 28 | 0 => 0 | 3 => 3 | 37 => 237 | 48 => 261 | 50 => 36 | 4 => 4 | 40 => 299 | 39 => 298 | 45 => 150 | 5 => 5 | 9 => 9 | 51 => 321 | 55 => 325 | 57 => 339 | 58 => 340 | 33 => 168 | n => n, fun | n => n⟩
theorem Tryz.sortedI : Go.Proofs.SlLaysZI.n6 Tryz.prog Tryz.sortedI_ren := {
  mixed := by kernel_rfl
  f6 := ⟨Tryz.f113.name, by decide, Tryz.func113.trans (congrArg some (by kernel_rfl))⟩
  f8 := ⟨Tryz.f146.name, by decide, Tryz.func146.trans (congrArg some (by kernel_rfl))⟩
  f11 := ⟨Tryz.f178.name, by decide, Tryz.func178.trans (congrArg some (by kernel_rfl))⟩
  t0 := Tryz.underlying0
  a0 := Tryz.isAgg0
  z0 := Tryz.sizeOf0
  v0 := Tryz.zeroValue0
  t24 := Tryz.underlying28
  a24 := Tryz.isAgg28
  z24 := Tryz.sizeOf28
  v24 := Tryz.zeroValue28
  t26 := Tryz.underlying3
  a26 := Tryz.isAgg3
  z26 := Tryz.sizeOf3
  v26 := Tryz.zeroValue3
  t28 := Tryz.underlying203
  a28 := Tryz.isAgg203
  z28 := Tryz.sizeOf203
  v28 := Tryz.zeroValue203
  i26 := by kernel_rfl }
def Tryz.sortI_ren : Go.Shelf.Ren := ⟨fun | 5 => 147 | 8 => 134 | 7 => 179 | 19 => 161 | 20 => 162 | 10 => 204 | 11 => 205 | 12 => 206 | 13 => 207 | 14 => 208 | 15 => 209 | 16 => 210 | 17 => 211 | 18 => 212 | 30 => 238 | 31 => 239 | 32 => 240 | 33 => 241 | 34 => 242 | 35 => 243 | 40 => 267 | n => n, fun | 23 => 28 | 25 => 3 | 3 => 3 | 32 => 237 | 22 => 28 | 0 => 0 | 44 => 261 | 46 => 36 | 4 => 4 | 36 => 299 | 35 => 298 | 41 => 150 | 5 => 5 | 9 => 9 | 53 => 321 | 57 => 325 | 63 => 339 | 64 => 340 | n => n, fun | n => n⟩
theorem Tryz.sortI : Go.Proofs.SlLaysM.n5 Tryz.prog Tryz.sortI_ren := {
  mixed := by kernel_rfl
  f5 := ⟨Tryz.f147.name, by decide, Tryz.func147.trans (congrArg some (by kernel_rfl))⟩
  f7 := ⟨Tryz.f179.name, by decide, Tryz.func179.trans (congrArg some (by kernel_rfl))⟩
  f8 := Tryz.func134.trans (congrArg some (by kernel_rfl))
  f10 := ⟨Tryz.f204.name, by decide, Tryz.func204.trans (congrArg some (by kernel_rfl))⟩
  f11 := ⟨Tryz.f205.name, by decide, Tryz.func205.trans (congrArg some (by kernel_rfl))⟩
  f12 := ⟨Tryz.f206.name, by decide, Tryz.func206.trans (congrArg some (by kernel_rfl))⟩
  f13 := ⟨Tryz.f207.name, by decide, Tryz.func207.trans (congrArg some (by kernel_rfl))⟩
  f14 := ⟨Tryz.f208.name, by decide, Tryz.func208.trans (congrArg some (by kernel_rfl))⟩
  f15 := ⟨Tryz.f209.name, by decide, Tryz.func209.trans (congrArg some (by kernel_rfl))⟩
  f16 := ⟨Tryz.f210.name, by decide, Tryz.func210.trans (congrArg some (by kernel_rfl))⟩
  f17 := ⟨Tryz.f211.name, by decide, Tryz.func211.trans (congrArg some (by kernel_rfl))⟩
  f18 := ⟨Tryz.f212.name, by decide, Tryz.func212.trans (congrArg some (by kernel_rfl))⟩
  f19 := Tryz.func161.trans (congrArg some (by kernel_rfl))
  f20 := Tryz.func162.trans (congrArg some (by kernel_rfl))
  f30 := ⟨Tryz.f238.name, by decide, Tryz.func238.trans (congrArg some (by kernel_rfl))⟩
  f31 := Tryz.func239.trans (congrArg some (by kernel_rfl))
  f32 := Tryz.func240.trans (congrArg some (by kernel_rfl))
  f33 := ⟨Tryz.f241.name, by decide, Tryz.func241.trans (congrArg some (by kernel_rfl))⟩
  f34 := ⟨Tryz.f242.name, by decide, Tryz.func242.trans (congrArg some (by kernel_rfl))⟩
  f35 := ⟨Tryz.f243.name, by decide, Tryz.func243.trans (congrArg some (by kernel_rfl))⟩
  f40 := ⟨Tryz.f267.name, by decide, Tryz.func267.trans (congrArg some (by kernel_rfl))⟩
  t0 := Tryz.underlying0
  a0 := Tryz.isAgg0
  z0 := Tryz.sizeOf0
  v0 := Tryz.zeroValue0
  t3 := Tryz.underlying3
  a3 := Tryz.isAgg3
  z3 := Tryz.sizeOf3
  v3 := Tryz.zeroValue3
  t4 := Tryz.underlying4
  a4 := Tryz.isAgg4
  z4 := Tryz.sizeOf4
  v4 := Tryz.zeroValue4
  t5 := Tryz.underlying5
  a5 := Tryz.isAgg5
  z5 := Tryz.sizeOf5
  v5 := Tryz.zeroValue5
  t9 := Tryz.underlying9
  a9 := Tryz.isAgg9
  z9 := Tryz.sizeOf9
  v9 := Tryz.zeroValue9
  t22 := Tryz.underlying28
  a22 := Tryz.isAgg28
  z22 := Tryz.sizeOf28
  v22 := Tryz.zeroValue28
  t23 := Tryz.underlying28
  a23 := Tryz.isAgg28
  z23 := Tryz.sizeOf28
  v23 := Tryz.zeroValue28
  t25 := Tryz.underlying3
  a25 := Tryz.isAgg3
  z25 := Tryz.sizeOf3
  v25 := Tryz.zeroValue3
  t32 := Tryz.underlying237
  a32 := Tryz.isAgg237
  z32 := Tryz.sizeOf237
  v32 := Tryz.zeroValue237
  t35 := Tryz.underlying298
  a35 := Tryz.isAgg298
  z35 := Tryz.sizeOf298
  v35 := Tryz.zeroValue298
  t36 := Tryz.underlying299
  a36 := Tryz.isAgg299
  z36 := Tryz.sizeOf299
  v36 := Tryz.zeroValue299
  t41 := Tryz.underlying150
  a41 := Tryz.isAgg150
  z41 := Tryz.sizeOf150
  v41 := Tryz.zeroValue150
  t44 := Tryz.underlying261
  a44 := Tryz.isAgg261
  z44 := Tryz.sizeOf261
  v44 := Tryz.zeroValue261
  t46 := Tryz.underlying36
  a46 := Tryz.isAgg36
  z46 := Tryz.sizeOf36
  v46 := Tryz.zeroValue36
  t53 := Tryz.underlying321
  a53 := Tryz.isAgg321
  z53 := Tryz.sizeOf321
  v53 := Tryz.zeroValue321
  t57 := Tryz.underlying325
  a57 := Tryz.isAgg325
  z57 := Tryz.sizeOf325
  v57 := Tryz.zeroValue325
  t63 := Tryz.underlying339
  a63 := Tryz.isAgg339
  z63 := Tryz.sizeOf339
  v63 := Tryz.zeroValue339
  t64 := Tryz.underlying340
  a64 := Tryz.isAgg340
  z64 := Tryz.sizeOf340
  v64 := Tryz.zeroValue340 }
end Go.Proofs
