/-
  DERIVED: THE SHELF's CONTRACTS AT THIS DUMP, IN PLAIN WORDS (tools/lay-plain.mjs out of 'TrysShelf2.lean', which tools/lay-shelf.mjs wrote): THE SAME DECLARATIONS UNDER THE SAME NAMES: 'import', 'namespace', 'open', 'def', 'theorem' AND NOTHING ELSE: no command of the shelf's: FOR A HAND-IN. Each laying: the table of numbers ('.._ren') and one theorem, a field a fact of the dump's own or the kernel's comparison; each contract: ONE APPLICATION.
-/
import Derived.Shelf.SlGeneric
import Derived.Shelf.SlLaysF0
import Derived.Test.YtckkhcnfdmlabaaGreatDoorProg
namespace Go.Proofs
open Go.Shelf
def Tryz.sortL_ren : Go.Shelf.Ren := ⟨fun | 6 => 288 | 15 => 318 | 14 => 317 | 28 => 343 | 29 => 311 | 20 => 335 | 21 => 336 | 22 => 337 | 23 => 338 | 24 => 339 | 25 => 340 | 26 => 341 | 27 => 342 | 46 => 348 | 47 => 349 | 48 => 350 | 49 => 351 | 50 => 352 | 57 => 355 | n => n, fun | 22 => 29 | 24 => 65 | 25 => 252 | 3 => 3 | 39 => 153 | 0 => 0 | 53 => 142 | 55 => 28 | 4 => 4 | 46 => 289 | 45 => 288 | 50 => 293 | 5 => 5 | 9 => 9 | 66 => 304 | 70 => 308 | 76 => 311 | 77 => 312 | n => n, fun n => n⟩
theorem Tryz.sortL : Go.Proofs.SlLaysF0.n6 Tryz.prog Tryz.sortL_ren := {
  mixed := by kernel_rfl
  f6 := ⟨Tryz.f288.name, by decide, Tryz.func288.trans (congrArg some (by kernel_rfl))⟩
  f14 := ⟨Tryz.f317.name, by decide, Tryz.func317.trans (congrArg some (by kernel_rfl))⟩
  f15 := Tryz.func318.trans (congrArg some (by kernel_rfl))
  f20 := ⟨Tryz.f335.name, by decide, Tryz.func335.trans (congrArg some (by kernel_rfl))⟩
  f21 := ⟨Tryz.f336.name, by decide, Tryz.func336.trans (congrArg some (by kernel_rfl))⟩
  f22 := ⟨Tryz.f337.name, by decide, Tryz.func337.trans (congrArg some (by kernel_rfl))⟩
  f23 := ⟨Tryz.f338.name, by decide, Tryz.func338.trans (congrArg some (by kernel_rfl))⟩
  f24 := ⟨Tryz.f339.name, by decide, Tryz.func339.trans (congrArg some (by kernel_rfl))⟩
  f25 := ⟨Tryz.f340.name, by decide, Tryz.func340.trans (congrArg some (by kernel_rfl))⟩
  f26 := ⟨Tryz.f341.name, by decide, Tryz.func341.trans (congrArg some (by kernel_rfl))⟩
  f27 := ⟨Tryz.f342.name, by decide, Tryz.func342.trans (congrArg some (by kernel_rfl))⟩
  f28 := Tryz.func343.trans (congrArg some (by kernel_rfl))
  f29 := Tryz.func311.trans (congrArg some (by kernel_rfl))
  f46 := ⟨Tryz.f348.name, by decide, Tryz.func348.trans (congrArg some (by kernel_rfl))⟩
  f47 := Tryz.func349.trans (congrArg some (by kernel_rfl))
  f48 := Tryz.func350.trans (congrArg some (by kernel_rfl))
  f49 := ⟨Tryz.f351.name, by decide, Tryz.func351.trans (congrArg some (by kernel_rfl))⟩
  f50 := ⟨Tryz.f352.name, by decide, Tryz.func352.trans (congrArg some (by kernel_rfl))⟩
  f57 := ⟨Tryz.f355.name, by decide, Tryz.func355.trans (congrArg some (by kernel_rfl))⟩
  t0 := Tryz.underlying0
  a0 := Tryz.isAgg0
  z0 := Tryz.sizeOf0
  v0 := Tryz.zeroValue0
  t3 := Tryz.underlying3
  a3 := Tryz.isAgg3
  z3 := Tryz.sizeOf3
  v3 := Tryz.zeroValue3
  t4 := Tryz.underlying4
  a4 := Tryz.isAgg4
  z4 := Tryz.sizeOf4
  v4 := Tryz.zeroValue4
  t5 := Tryz.underlying5
  a5 := Tryz.isAgg5
  z5 := Tryz.sizeOf5
  v5 := Tryz.zeroValue5
  t9 := Tryz.underlying9
  a9 := Tryz.isAgg9
  z9 := Tryz.sizeOf9
  v9 := Tryz.zeroValue9
  t22 := Tryz.underlying29
  a22 := Tryz.isAgg29
  z22 := Tryz.sizeOf29
  v22 := Tryz.zeroValue29
  t25 := Tryz.underlying252
  a25 := Tryz.isAgg252
  z25 := Tryz.sizeOf252
  v25 := Tryz.zeroValue252
  t39 := Tryz.underlying153
  a39 := Tryz.isAgg153
  z39 := Tryz.sizeOf153
  v39 := Tryz.zeroValue153
  t45 := Tryz.underlying288
  a45 := Tryz.isAgg288
  z45 := Tryz.sizeOf288
  v45 := Tryz.zeroValue288
  t46 := Tryz.underlying289
  a46 := Tryz.isAgg289
  z46 := Tryz.sizeOf289
  v46 := Tryz.zeroValue289
  t50 := Tryz.underlying293
  a50 := Tryz.isAgg293
  z50 := Tryz.sizeOf293
  v50 := Tryz.zeroValue293
  t53 := Tryz.underlying142
  a53 := Tryz.isAgg142
  z53 := Tryz.sizeOf142
  v53 := Tryz.zeroValue142
  t55 := Tryz.underlying28
  a55 := Tryz.isAgg28
  z55 := Tryz.sizeOf28
  v55 := Tryz.zeroValue28
  t66 := Tryz.underlying304
  a66 := Tryz.isAgg304
  z66 := Tryz.sizeOf304
  v66 := Tryz.zeroValue304
  t70 := Tryz.underlying308
  a70 := Tryz.isAgg308
  z70 := Tryz.sizeOf308
  v70 := Tryz.zeroValue308
  t76 := Tryz.underlying311
  a76 := Tryz.isAgg311
  z76 := Tryz.sizeOf311
  v76 := Tryz.zeroValue311
  t77 := Tryz.underlying312
  a77 := Tryz.isAgg312
  z77 := Tryz.sizeOf312
  v77 := Tryz.zeroValue312 }
end Go.Proofs
