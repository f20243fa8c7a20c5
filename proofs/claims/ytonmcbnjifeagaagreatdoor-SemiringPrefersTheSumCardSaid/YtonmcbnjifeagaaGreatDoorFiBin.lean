/-
  The binary operations, one equation each.
-/
import Derived.Test.YtonmcbnjifeagaaGreatDoorFiCore
set_option linter.unusedVariables false
set_option linter.unusedSimpArgs false
namespace Fi
open Go

/-- Bits of integers: sealed, so that no proof is checked by reckoning them out. -/
theorem sealed_or (k : IntKind) (a b : Int) : ∃ z : Int, z = k.wrap (BitVec.ofInt k.bits a ||| BitVec.ofInt k.bits b).toNat := ⟨_, rfl⟩
theorem sealed_and (k : IntKind) (a b : Int) : ∃ z : Int, z = k.wrap (BitVec.ofInt k.bits a &&& BitVec.ofInt k.bits b).toNat := ⟨_, rfl⟩
theorem sealed_xor (k : IntKind) (a b : Int) : ∃ z : Int, z = k.wrap (BitVec.ofInt k.bits a ^^^ BitVec.ofInt k.bits b).toNat := ⟨_, rfl⟩
theorem sealed_shl (k : IntKind) (a b : Int) : ∃ z : Int, z = k.wrap (a * 2 ^ (min b.toNat k.bits)) := ⟨_, rfl⟩
noncomputable def shlV (k : IntKind) (a b : Int) : Int := Classical.choose (sealed_shl k a b)
theorem shlV_eq (k : IntKind) (a b : Int) : shlV k a b = k.wrap (a * 2 ^ (min b.toNat k.bits)) := Classical.choose_spec (sealed_shl k a b)
noncomputable def orV (k : IntKind) (a b : Int) : Int := Classical.choose (sealed_or k a b)
noncomputable def andV (k : IntKind) (a b : Int) : Int := Classical.choose (sealed_and k a b)
noncomputable def xorV (k : IntKind) (a b : Int) : Int := Classical.choose (sealed_xor k a b)
theorem orV_eq (k : IntKind) (a b : Int) : orV k a b = k.wrap (BitVec.ofInt k.bits a ||| BitVec.ofInt k.bits b).toNat := Classical.choose_spec (sealed_or k a b)
theorem andV_eq (k : IntKind) (a b : Int) : andV k a b = k.wrap (BitVec.ofInt k.bits a &&& BitVec.ofInt k.bits b).toNat := Classical.choose_spec (sealed_and k a b)
theorem xorV_eq (k : IntKind) (a b : Int) : xorV k a b = k.wrap (BitVec.ofInt k.bits a ^^^ BitVec.ofInt k.bits b).toNat := Classical.choose_spec (sealed_xor k a b)

section
variable {k k' : IntKind} {a b : Int}
theorem b_add : binV .add (.int k a) (.int k b) = some (.int k (k.wrap (a + b))) := by simp [binV]
theorem b_sub : binV .sub (.int k a) (.int k b) = some (.int k (k.wrap (a - b))) := by simp [binV]
theorem b_mul : binV .mul (.int k a) (.int k b) = some (.int k (k.wrap (a * b))) := by simp [binV]
theorem b_quo : binV .quo (.int k a) (.int k b) = if b = 0 then none else some (.int k (k.wrap (a.tdiv b))) := by simp [binV]
theorem b_rem : binV .rem (.int k a) (.int k b) = if b = 0 then none else some (.int k (a.tmod b)) := by simp [binV]
theorem b_or : binV .or (.int k a) (.int k b) = some (.int k (orV k a b)) := by simp [binV, orV_eq]
theorem b_and : binV .and (.int k a) (.int k b) = some (.int k (andV k a b)) := by simp [binV, andV_eq]
theorem b_xor : binV .xor (.int k a) (.int k b) = some (.int k (xorV k a b)) := by simp [binV, xorV_eq]
theorem b_shl : binV .shl (.int k a) (.int k' b) = if b < 0 then none else some (.int k (shlV k a b)) := by simp [binV, shlV_eq]
theorem b_shr : binV .shr (.int k a) (.int k' b) = if b < 0 then none else some (.int k (a.fdiv (2 ^ (min b.toNat k.bits)))) := by simp [binV]
theorem b_eql : binV .eql (.int k a) (.int k b) = some (.bool (a == b)) := by simp [binV]
theorem b_neq : binV .neq (.int k a) (.int k b) = some (.bool (a != b)) := by simp [binV]
theorem b_lss : binV .lss (.int k a) (.int k b) = some (.bool (decide (a < b))) := by simp [binV]
theorem b_leq : binV .leq (.int k a) (.int k b) = some (.bool (decide (a ≤ b))) := by simp [binV]
theorem b_gtr : binV .gtr (.int k a) (.int k b) = some (.bool (decide (b < a))) := by simp [binV]
theorem b_geq : binV .geq (.int k a) (.int k b) = some (.bool (decide (b ≤ a))) := by simp [binV]
end
end Fi
