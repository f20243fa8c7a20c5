/-
  DERIVED: THE SHELF's CONTRACTS AT THIS DUMP, IN PLAIN WORDS (tools/lay-plain.mjs out of 'TrysShelf2.lean', which tools/lay-shelf.mjs wrote): THE SAME DECLARATIONS UNDER THE SAME NAMES: 'import', 'namespace', 'open', 'def', 'theorem' AND NOTHING ELSE: no command of the shelf's: FOR A HAND-IN. Each laying: the table of numbers ('.._ren') and one theorem, a field a fact of the dump's own or the kernel's comparison; each contract: ONE APPLICATION.
-/
import Derived.Shelf.SlGeneric
import Derived.Shelf.SlLaysF0
import Derived.Test.YtbbogkfadofneaaGreatDoorProg
namespace Go.Proofs
open Go.Shelf
def Tryz.sortL_ren : Go.Shelf.Ren := ⟨fun | 6 => 305 | 15 => 334 | 14 => 333 | 28 => 359 | 29 => 327 | 20 => 351 | 21 => 352 | 22 => 353 | 23 => 354 | 24 => 355 | 25 => 356 | 26 => 357 | 27 => 358 | 46 => 364 | 47 => 365 | 48 => 366 | 49 => 367 | 50 => 368 | 57 => 371 | n => n, fun | 22 => 42 | 24 => 92 | 25 => 278 | 3 => 3 | 39 => 47 | 0 => 0 | 53 => 37 | 55 => 41 | 4 => 4 | 46 => 315 | 45 => 314 | 50 => 183 | 5 => 5 | 9 => 9 | 66 => 329 | 70 => 333 | 76 => 336 | 77 => 337 | n => n, fun n => n⟩
theorem Tryz.sortL : Go.Proofs.SlLaysF0.n6 Tryz.prog Tryz.sortL_ren := {
  mixed := by kernel_rfl
  f6 := ⟨Tryz.f305.name, by decide, Tryz.func305.trans (congrArg some (by kernel_rfl))⟩
  f14 := ⟨Tryz.f333.name, by decide, Tryz.func333.trans (congrArg some (by kernel_rfl))⟩
  f15 := Tryz.func334.trans (congrArg some (by kernel_rfl))
  f20 := ⟨Tryz.f351.name, by decide, Tryz.func351.trans (congrArg some (by kernel_rfl))⟩
  f21 := ⟨Tryz.f352.name, by decide, Tryz.func352.trans (congrArg some (by kernel_rfl))⟩
  f22 := ⟨Tryz.f353.name, by decide, Tryz.func353.trans (congrArg some (by kernel_rfl))⟩
  f23 := ⟨Tryz.f354.name, by decide, Tryz.func354.trans (congrArg some (by kernel_rfl))⟩
  f24 := ⟨Tryz.f355.name, by decide, Tryz.func355.trans (congrArg some (by kernel_rfl))⟩
  f25 := ⟨Tryz.f356.name, by decide, Tryz.func356.trans (congrArg some (by kernel_rfl))⟩
  f26 := ⟨Tryz.f357.name, by decide, Tryz.func357.trans (congrArg some (by kernel_rfl))⟩
  f27 := ⟨Tryz.f358.name, by decide, Tryz.func358.trans (congrArg some (by kernel_rfl))⟩
  f28 := Tryz.func359.trans (congrArg some (by kernel_rfl))
  f29 := Tryz.func327.trans (congrArg some (by kernel_rfl))
  f46 := ⟨Tryz.f364.name, by decide, Tryz.func364.trans (congrArg some (by kernel_rfl))⟩
  f47 := Tryz.func365.trans (congrArg some (by kernel_rfl))
  f48 := Tryz.func366.trans (congrArg some (by kernel_rfl))
  f49 := ⟨Tryz.f367.name, by decide, Tryz.func367.trans (congrArg some (by kernel_rfl))⟩
  f50 := ⟨Tryz.f368.name, by decide, Tryz.func368.trans (congrArg some (by kernel_rfl))⟩
  f57 := ⟨Tryz.f371.name, by decide, Tryz.func371.trans (congrArg some (by kernel_rfl))⟩
  t0 := Tryz.underlying0
  a0 := Tryz.isAgg0
  z0 := Tryz.sizeOf0
  v0 := Tryz.zeroValue0
  t3 := Tryz.underlying3
  a3 := Tryz.isAgg3
  z3 := Tryz.sizeOf3
  v3 := Tryz.zeroValue3
  t4 := Tryz.underlying4
  a4 := Tryz.isAgg4
  z4 := Tryz.sizeOf4
  v4 := Tryz.zeroValue4
  t5 := Tryz.underlying5
  a5 := Tryz.isAgg5
  z5 := Tryz.sizeOf5
  v5 := Tryz.zeroValue5
  t9 := Tryz.underlying9
  a9 := Tryz.isAgg9
  z9 := Tryz.sizeOf9
  v9 := Tryz.zeroValue9
  t22 := Tryz.underlying42
  a22 := Tryz.isAgg42
  z22 := Tryz.sizeOf42
  v22 := Tryz.zeroValue42
  t25 := Tryz.underlying278
  a25 := Tryz.isAgg278
  z25 := Tryz.sizeOf278
  v25 := Tryz.zeroValue278
  t39 := Tryz.underlying47
  a39 := Tryz.isAgg47
  z39 := Tryz.sizeOf47
  v39 := Tryz.zeroValue47
  t45 := Tryz.underlying314
  a45 := Tryz.isAgg314
  z45 := Tryz.sizeOf314
  v45 := Tryz.zeroValue314
  t46 := Tryz.underlying315
  a46 := Tryz.isAgg315
  z46 := Tryz.sizeOf315
  v46 := Tryz.zeroValue315
  t50 := Tryz.underlying183
  a50 := Tryz.isAgg183
  z50 := Tryz.sizeOf183
  v50 := Tryz.zeroValue183
  t53 := Tryz.underlying37
  a53 := Tryz.isAgg37
  z53 := Tryz.sizeOf37
  v53 := Tryz.zeroValue37
  t55 := Tryz.underlying41
  a55 := Tryz.isAgg41
  z55 := Tryz.sizeOf41
  v55 := Tryz.zeroValue41
  t66 := Tryz.underlying329
  a66 := Tryz.isAgg329
  z66 := Tryz.sizeOf329
  v66 := Tryz.zeroValue329
  t70 := Tryz.underlying333
  a70 := Tryz.isAgg333
  z70 := Tryz.sizeOf333
  v70 := Tryz.zeroValue333
  t76 := Tryz.underlying336
  a76 := Tryz.isAgg336
  z76 := Tryz.sizeOf336
  v76 := Tryz.zeroValue336
  t77 := Tryz.underlying337
  a77 := Tryz.isAgg337
  z77 := Tryz.sizeOf337
  v77 := Tryz.zeroValue337 }
end Go.Proofs
