/- Zero and One, by the kernel. -/
import Derived.Test.YtonmcbnjifeagaaGreatDoorCH
import Derived.Test.YtonmcbnjifeagaaGreatDoorCE
import Derived.Test.YtonmcbnjifeagaaGreatDoorFiH
set_option linter.unusedVariables false
set_option linter.unusedSimpArgs false
noncomputable section
noncomputable section
namespace Fi.S
open Go Fi
set_option maxHeartbeats 8000000
set_option maxRecDepth 10000
def adu:D:=.a [.v (.bool false),.s 1 [.v (.int .u32 1)],.s 1 []]
def Qi:D:=.s 6 [.a [.v (.int .i64 0),.v (.int .i64 0),.v (.int .i64 0),.v (.bool false),.s 1 [.v (.int .u32 1)],.s 1 []]]
def adv (ds:List D):Option D :=
 match ds with
 | [d]=>if gH d adu then some Qi else none
 | _=>none
def E6:Env:={fn:=fn,eZ:=eZ,iY:=fun g=>bif Nat.beq g 153 then some adv else yR g,iA:=fun _=>none}
def zoB (f g:Nat)(r:D):Bool :=
 match bX E6 3000 f [.d r] [],bX E6 3000 g [.d r] [] with
 | some (.d z1,none),some (.d z2,none)=>gH z1.norm z1&&gH z2.norm z2&&yes (bX E6 3000 12 [.d z1,.d z2] [])
 | _,_=>false
def adw:List D:=[1,2,3,4,5].map fun k=>aT k []
def adx (a:Int):List D:=[1,2,3,4,5].map fun b=>aT 6 [a,b]
def ady (a b:Int):List D:=[1,2,3,4,5].map fun c=>aT 6 [a,b,c]
end Fi.S
noncomputable section
namespace Fi.S
open Go Fi
set_option maxHeartbeats 8000000
set_option maxRecDepth 1000000
def Qc (k:Int):D:=.a [.v (.bool false),.s 1 [],.s 1 [],.v (.int .i64 0),.v (.bool (k==2)),.v (.int .u64 0),.s 6 [],.s 8 []]
def Qd (k:Int)(ps:List Int):D:=if k=6 then .a [.v (.bool false),.s 1 [],.s 1 [],.v (.int .i64 0),.v (.bool false),.v (.int .u64 0),.s 6 [],.s 8 (ps.map Qc)] else Qc k
def gZ (k:Int)(ps:List Int):Bool :=
 (match bX E0 3000 26 [.d (aT k ps)] [] with
  | some (.d z,none)=>gH z (Qd k ps)
  | _=>false) &&
 match bX E6 3000 27 [.d (aT k ps)] [] with
  | some (.d z,none)=>gH z.norm z&&yes (bX E6 3000 18 [.d (aT k ps),.d z] [])
  | _=>false
theorem abY:([1,2,3,4,5].all fun k=>gZ k [])=true:=by kernel_rfl
theorem ZP:([1,2,3,4,5].all fun k=>gZ 6 [1,k])=true:=by kernel_rfl
theorem ZQ:([1,2,3,4,5].all fun k=>gZ 6 [2,k])=true:=by kernel_rfl
theorem ZR:([1,2,3,4,5].all fun k=>gZ 6 [3,k])=true:=by kernel_rfl
theorem ZT:([1,2,3,4,5].all fun k=>gZ 6 [4,k])=true:=by kernel_rfl
theorem ZU:([1,2,3,4,5].all fun k=>gZ 6 [5,k])=true:=by kernel_rfl
end Fi.S
