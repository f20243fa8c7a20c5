import Derived.Test.YtgngjdakilfmoaaGreatDoorSEnv
noncomputable section
namespace Fi.S
open Go Fi
set_option maxHeartbeats 8000000
def ad8:D:=.a [vB false,.s 1 [.v (.int .u32 1)],.s 1 []]
def Kr:D:=.s 6 [.a [vI 0,vI 0,vI 0,vB false,.s 1 [.v (.int .u32 1)],.s 1 []]]
def aaK (ds:List D):Option D :=
 match ds with
 | [d]=>if kH d ad8 then some Kr else none
 | _=>none
def E6:Env:={fn:=fn,eG:=eG,jq:=fun g=>bif Nat.beq g 153 then some aaK else ve g,iO:=fun _=>none}
end Fi.S
noncomputable section
namespace Fi.S
open Go Fi
set_option maxHeartbeats 8000000
set_option maxRecDepth 1000000
def Nl (k:Int):D:=.a [vB false,.s 1 [],.s 1 [],vI 0,vB (k==2),.v (.int .u64 0),.s 6 [],.s 8 []]
def We (k:Int)(ps:List Int):D:=if k=6 then .a [vB false,.s 1 [],.s 1 [],vI 0,vB false,.v (.int .u64 0),.s 6 [],.s 8 (ps.map Nl)] else Nl k
def H8 (k:Int):D :=
 if k=4 then .a [vB false,.s 1 [],.s 1 [],vI 0,vB false,.v (.int .u64 18446744073709551615),.s 6 [],.s 8 []]
 else if k=2 then .a [vB false,.s 1 [],.s 1 [],vI 0,vB false,.v (.int .u64 0),.s 6 [],.s 8 []]
 else if k=5 then .a [vB false,.s 1 [],.s 1 [],vI 0,vB false,.v (.int .u64 0),Kr,.s 8 []]
 else .a [vB false,.s 1 [.v (.int .u32 1)],.s 1 [],vI 0,vB false,.v (.int .u64 0),.s 6 [],.s 8 []]
def Ps (k:Int)(ps:List Int):D:=if k=6 then .a [vB false,.s 1 [],.s 1 [],vI 0,vB false,.v (.int .u64 0),.s 6 [],.s 8 (ps.map H8)] else H8 k
def jA (k:Int)(ps:List Int):Bool :=
 (match cz E0 3000 26 [.d (aU k ps)] [] with
  | some (.d z,none)=>kH z (We k ps)
  | _=>false) &&
 (match cz E6 3000 20 [.d (aU k ps)] [] with
  | some (.d z,none)=>kH z (Ps k ps)
  | _=>false)
theorem aj0:([1,2,3,4,5].all fun k=>jA k [])=true:=by kernel_rfl
theorem ahl:([1,2,3,4,5].all fun k=>jA 6 [1,k])=true:=by kernel_rfl
theorem ahm:([1,2,3,4,5].all fun k=>jA 6 [2,k])=true:=by kernel_rfl
theorem ahn:([1,2,3,4,5].all fun k=>jA 6 [3,k])=true:=by kernel_rfl
theorem aho:([1,2,3,4,5].all fun k=>jA 6 [4,k])=true:=by kernel_rfl
theorem ahp:([1,2,3,4,5].all fun k=>jA 6 [5,k])=true:=by kernel_rfl
end Fi.S
