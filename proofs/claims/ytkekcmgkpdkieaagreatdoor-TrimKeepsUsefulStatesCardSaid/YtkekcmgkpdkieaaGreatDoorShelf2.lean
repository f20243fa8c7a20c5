/-
  DERIVED: THE SHELF's CONTRACTS AT THIS DUMP, IN PLAIN WORDS (tools/lay-plain.mjs out of 'TrysShelf2.lean', which tools/lay-shelf.mjs wrote): THE SAME DECLARATIONS UNDER THE SAME NAMES: 'import', 'namespace', 'open', 'def', 'theorem' AND NOTHING ELSE: no command of the shelf's: FOR A HAND-IN. Each laying: the table of numbers ('.._ren') and one theorem, a field a fact of the dump's own or the kernel's comparison; each contract: ONE APPLICATION.
-/
import Derived.Shelf.SlGeneric
import Derived.Shelf.SlLaysF0
import Derived.Test.YtkekcmgkpdkieaaGreatDoorProg
namespace Go.Proofs
open Go.Shelf
def Tryz.sortL_ren : Go.Shelf.Ren := ⟨fun | 6 => 308 | 15 => 337 | 14 => 336 | 28 => 362 | 29 => 330 | 20 => 354 | 21 => 355 | 22 => 356 | 23 => 357 | 24 => 358 | 25 => 359 | 26 => 360 | 27 => 361 | 46 => 367 | 47 => 368 | 48 => 369 | 49 => 370 | 50 => 371 | 57 => 374 | n => n, fun | 22 => 48 | 24 => 115 | 25 => 270 | 3 => 3 | 39 => 173 | 0 => 0 | 53 => 154 | 55 => 47 | 4 => 4 | 46 => 307 | 45 => 306 | 50 => 311 | 5 => 5 | 9 => 9 | 66 => 322 | 70 => 326 | 76 => 329 | 77 => 330 | n => n, fun n => n⟩
theorem Tryz.sortL : Go.Proofs.SlLaysF0.n6 Tryz.prog Tryz.sortL_ren := {
  mixed := by kernel_rfl
  f6 := ⟨Tryz.f308.name, by decide, Tryz.func308.trans (congrArg some (by kernel_rfl))⟩
  f14 := ⟨Tryz.f336.name, by decide, Tryz.func336.trans (congrArg some (by kernel_rfl))⟩
  f15 := Tryz.func337.trans (congrArg some (by kernel_rfl))
  f20 := ⟨Tryz.f354.name, by decide, Tryz.func354.trans (congrArg some (by kernel_rfl))⟩
  f21 := ⟨Tryz.f355.name, by decide, Tryz.func355.trans (congrArg some (by kernel_rfl))⟩
  f22 := ⟨Tryz.f356.name, by decide, Tryz.func356.trans (congrArg some (by kernel_rfl))⟩
  f23 := ⟨Tryz.f357.name, by decide, Tryz.func357.trans (congrArg some (by kernel_rfl))⟩
  f24 := ⟨Tryz.f358.name, by decide, Tryz.func358.trans (congrArg some (by kernel_rfl))⟩
  f25 := ⟨Tryz.f359.name, by decide, Tryz.func359.trans (congrArg some (by kernel_rfl))⟩
  f26 := ⟨Tryz.f360.name, by decide, Tryz.func360.trans (congrArg some (by kernel_rfl))⟩
  f27 := ⟨Tryz.f361.name, by decide, Tryz.func361.trans (congrArg some (by kernel_rfl))⟩
  f28 := Tryz.func362.trans (congrArg some (by kernel_rfl))
  f29 := Tryz.func330.trans (congrArg some (by kernel_rfl))
  f46 := ⟨Tryz.f367.name, by decide, Tryz.func367.trans (congrArg some (by kernel_rfl))⟩
  f47 := Tryz.func368.trans (congrArg some (by kernel_rfl))
  f48 := Tryz.func369.trans (congrArg some (by kernel_rfl))
  f49 := ⟨Tryz.f370.name, by decide, Tryz.func370.trans (congrArg some (by kernel_rfl))⟩
  f50 := ⟨Tryz.f371.name, by decide, Tryz.func371.trans (congrArg some (by kernel_rfl))⟩
  f57 := ⟨Tryz.f374.name, by decide, Tryz.func374.trans (congrArg some (by kernel_rfl))⟩
  t0 := Tryz.underlying0
  a0 := Tryz.isAgg0
  z0 := Tryz.sizeOf0
  v0 := Tryz.zeroValue0
  t3 := Tryz.underlying3
  a3 := Tryz.isAgg3
  z3 := Tryz.sizeOf3
  v3 := Tryz.zeroValue3
  t4 := Tryz.underlying4
  a4 := Tryz.isAgg4
  z4 := Tryz.sizeOf4
  v4 := Tryz.zeroValue4
  t5 := Tryz.underlying5
  a5 := Tryz.isAgg5
  z5 := Tryz.sizeOf5
  v5 := Tryz.zeroValue5
  t9 := Tryz.underlying9
  a9 := Tryz.isAgg9
  z9 := Tryz.sizeOf9
  v9 := Tryz.zeroValue9
  t22 := Tryz.underlying48
  a22 := Tryz.isAgg48
  z22 := Tryz.sizeOf48
  v22 := Tryz.zeroValue48
  t25 := Tryz.underlying270
  a25 := Tryz.isAgg270
  z25 := Tryz.sizeOf270
  v25 := Tryz.zeroValue270
  t39 := Tryz.underlying173
  a39 := Tryz.isAgg173
  z39 := Tryz.sizeOf173
  v39 := Tryz.zeroValue173
  t45 := Tryz.underlying306
  a45 := Tryz.isAgg306
  z45 := Tryz.sizeOf306
  v45 := Tryz.zeroValue306
  t46 := Tryz.underlying307
  a46 := Tryz.isAgg307
  z46 := Tryz.sizeOf307
  v46 := Tryz.zeroValue307
  t50 := Tryz.underlying311
  a50 := Tryz.isAgg311
  z50 := Tryz.sizeOf311
  v50 := Tryz.zeroValue311
  t53 := Tryz.underlying154
  a53 := Tryz.isAgg154
  z53 := Tryz.sizeOf154
  v53 := Tryz.zeroValue154
  t55 := Tryz.underlying47
  a55 := Tryz.isAgg47
  z55 := Tryz.sizeOf47
  v55 := Tryz.zeroValue47
  t66 := Tryz.underlying322
  a66 := Tryz.isAgg322
  z66 := Tryz.sizeOf322
  v66 := Tryz.zeroValue322
  t70 := Tryz.underlying326
  a70 := Tryz.isAgg326
  z70 := Tryz.sizeOf326
  v70 := Tryz.zeroValue326
  t76 := Tryz.underlying329
  a76 := Tryz.isAgg329
  z76 := Tryz.sizeOf329
  v76 := Tryz.zeroValue329
  t77 := Tryz.underlying330
  a77 := Tryz.isAgg330
  z77 := Tryz.sizeOf330
  v77 := Tryz.zeroValue330 }
end Go.Proofs
