/- Zero and One, by the kernel. -/
import Derived.Test.YtonmcbnjifeagaaGreatDoorCH
import Derived.Test.YtonmcbnjifeagaaGreatDoorCF
import Derived.Test.YtonmcbnjifeagaaGreatDoorFiH
set_option linter.unusedVariables false
set_option linter.unusedSimpArgs false
namespace Fi.S
open Go Fi
set_option maxHeartbeats 8000000
set_option maxRecDepth 1000000
def one1 : D := .a [.v (.bool false), .s 1 [.v (.int .u32 1)], .s 1 []]
def poly1 : D := .s 6 [.a [.v (.int .i64 0), .v (.int .i64 0), .v (.int .i64 0), .v (.bool false), .s 1 [.v (.int .u32 1)], .s 1 []]]
def p153 (ds : List D) : Option D :=
 match ds with
 | [d] => if sameD d one1 then some poly1 else none
 | _ => none
def E6 : Env := { fn := fn, glob := glob, prim := fun g => bif Nat.beq g 153 then some p153 else prim0 g, primB := fun _ => none }
def zoB (f g : Nat) (r : D) : Bool :=
 match callN E6 3000 f [.d r] [], callN E6 3000 g [.d r] [] with
 | some (.d z1, none), some (.d z2, none) => sameD z1.norm z1 && sameD z2.norm z2 && yes (callN E6 3000 12 [.d z1, .d z2] [])
 | _, _ => false
def rings1 : List D := [1, 2, 3, 4, 5].map fun k => rgD k []
def rings2 (a : Int) : List D := [1, 2, 3, 4, 5].map fun b => rgD 6 [a, b]
def rings3 (a b : Int) : List D := [1, 2, 3, 4, 5].map fun c => rgD 6 [a, b, c]
theorem zo_1 : (rings1.all fun r => zoB 26 35 r && zoB 27 20 r) = true := by kernel_rfl
theorem zo_21 : ((rings2 1).all fun r => zoB 26 35 r && zoB 27 20 r) = true := by kernel_rfl
theorem zo_22 : ((rings2 2).all fun r => zoB 26 35 r && zoB 27 20 r) = true := by kernel_rfl
theorem zo_23 : ((rings2 3).all fun r => zoB 26 35 r && zoB 27 20 r) = true := by kernel_rfl
theorem zo_24 : ((rings2 4).all fun r => zoB 26 35 r && zoB 27 20 r) = true := by kernel_rfl
theorem zo_25 : ((rings2 5).all fun r => zoB 26 35 r && zoB 27 20 r) = true := by kernel_rfl
end Fi.S
