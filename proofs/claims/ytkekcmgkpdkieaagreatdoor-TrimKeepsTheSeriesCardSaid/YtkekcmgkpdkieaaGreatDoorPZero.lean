import Derived.Test.YtkekcmgkpdkieaaGreatDoorSEnv
noncomputable section
namespace Fi.S
open Go Fi
set_option maxHeartbeats 8000000
def age:D:=.a [vB false,.s 1 [.v (.int .u32 1)],.s 1 []]
def KF:D:=.s 6 [.a [vI 0,vI 0,vI 0,vB false,.s 1 [.v (.int .u32 1)],.s 1 []]]
def acC (ds:List D):Option D :=
 match ds with
 | [d]=>if jY d age then some KF else none
 | _=>none
def E6:Env:={fn:=fn,eQ:=eQ,jl:=fun g=>bif Nat.beq g 153 then some acC else vF g,iU:=fun _=>none}
end Fi.S
noncomputable section
namespace Fi.S
open Go Fi
set_option maxHeartbeats 8000000
set_option maxRecDepth 1000000
def NI (k:Int):D:=.a [vB false,.s 1 [],.s 1 [],vI 0,vB (k==2),.v (.int .u64 0),.s 6 [],.s 8 []]
def Wx (k:Int)(ps:List Int):D:=if k=6 then .a [vB false,.s 1 [],.s 1 [],vI 0,vB false,.v (.int .u64 0),.s 6 [],.s 8 (ps.map NI)] else NI k
def Ig (k:Int):D :=
 if k=4 then .a [vB false,.s 1 [],.s 1 [],vI 0,vB false,.v (.int .u64 18446744073709551615),.s 6 [],.s 8 []]
 else if k=2 then .a [vB false,.s 1 [],.s 1 [],vI 0,vB false,.v (.int .u64 0),.s 6 [],.s 8 []]
 else if k=5 then .a [vB false,.s 1 [],.s 1 [],vI 0,vB false,.v (.int .u64 0),KF,.s 8 []]
 else .a [vB false,.s 1 [.v (.int .u32 1)],.s 1 [],vI 0,vB false,.v (.int .u64 0),.s 6 [],.s 8 []]
def Gb (k:Int)(ps:List Int):D:=if k=6 then .a [vB false,.s 1 [],.s 1 [],vI 0,vB false,.v (.int .u64 0),.s 6 [],.s 8 (ps.map Ig)] else Ig k
def jA (k:Int)(ps:List Int):Bool :=
 (match cz E0 3000 26 [.d (aV k ps)] [] with
  | some (.d z,none)=>jY z (Wx k ps)
  | _=>false) &&
 ((match cz E6 3000 27 [.d (aV k ps)] [] with
  | some (.d z,none)=>jY z (Gb k ps)
  | _=>false) &&
 match cz E6 3000 20 [.d (aV k ps)] [] with
  | some (.d z,none)=>jY z (Gb k ps)
  | _=>false)
theorem akh:([1,2,3,4,5].all fun k=>jA k [])=true:=by kernel_rfl
theorem ahJ:([1,2,3,4,5].all fun k=>jA 6 [1,k])=true:=by kernel_rfl
theorem ahK:([1,2,3,4,5].all fun k=>jA 6 [2,k])=true:=by kernel_rfl
theorem ahL:([1,2,3,4,5].all fun k=>jA 6 [3,k])=true:=by kernel_rfl
theorem ahM:([1,2,3,4,5].all fun k=>jA 6 [4,k])=true:=by kernel_rfl
theorem ahN:([1,2,3,4,5].all fun k=>jA 6 [5,k])=true:=by kernel_rfl
end Fi.S
