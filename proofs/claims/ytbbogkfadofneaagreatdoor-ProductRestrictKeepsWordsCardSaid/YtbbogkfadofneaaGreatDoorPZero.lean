import Derived.Test.YtbbogkfadofneaaGreatDoorSEnv
noncomputable section
namespace Fi.S
open Go Fi
set_option maxHeartbeats 8000000
def ach:D:=.a [vB false,.s 1 [.v (.int .u32 1)],.s 1 []]
def Jn:D:=.s 6 [.a [vI 0,vI 0,vI 0,vB false,.s 1 [.v (.int .u32 1)],.s 1 []]]
def Y6 (ds:List D):Option D :=
 match ds with
 | [d]=>if jd d ach then some Jn else none
 | _=>none
def E6:Env:={fn:=fn,d9:=d9,iV:=fun g=>bif Nat.beq g 153 then some Y6 else uA g,iH:=fun _=>none}
end Fi.S
noncomputable section
namespace Fi.S
open Go Fi
set_option maxHeartbeats 8000000
set_option maxRecDepth 1000000
def Mf (k:Int):D:=.a [vB false,.s 1 [],.s 1 [],vI 0,vB (k==2),.v (.int .u64 0),.s 6 [],.s 8 []]
def U0 (k:Int)(ps:List Int):D:=if k=6 then .a [vB false,.s 1 [],.s 1 [],vI 0,vB false,.v (.int .u64 0),.s 6 [],.s 8 (ps.map Mf)] else Mf k
def GJ (k:Int):D :=
 if k=4 then .a [vB false,.s 1 [],.s 1 [],vI 0,vB false,.v (.int .u64 18446744073709551615),.s 6 [],.s 8 []]
 else if k=2 then .a [vB false,.s 1 [],.s 1 [],vI 0,vB false,.v (.int .u64 0),.s 6 [],.s 8 []]
 else if k=5 then .a [vB false,.s 1 [],.s 1 [],vI 0,vB false,.v (.int .u64 0),Jn,.s 8 []]
 else .a [vB false,.s 1 [.v (.int .u32 1)],.s 1 [],vI 0,vB false,.v (.int .u64 0),.s 6 [],.s 8 []]
def Oi (k:Int)(ps:List Int):D:=if k=6 then .a [vB false,.s 1 [],.s 1 [],vI 0,vB false,.v (.int .u64 0),.s 6 [],.s 8 (ps.map GJ)] else GJ k
def jh (k:Int)(ps:List Int):Bool :=
 (match cu E0 3000 26 [.d (aT k ps)] [] with
  | some (.d z,none)=>jd z (U0 k ps)
  | _=>false) &&
 (match cu E6 3000 20 [.d (aT k ps)] [] with
  | some (.d z,none)=>jd z (Oi k ps)
  | _=>false)
theorem ah2:([1,2,3,4,5].all fun k=>jh k [])=true:=by kernel_rfl
theorem aft:([1,2,3,4,5].all fun k=>jh 6 [1,k])=true:=by kernel_rfl
theorem afu:([1,2,3,4,5].all fun k=>jh 6 [2,k])=true:=by kernel_rfl
theorem afv:([1,2,3,4,5].all fun k=>jh 6 [3,k])=true:=by kernel_rfl
theorem afw:([1,2,3,4,5].all fun k=>jh 6 [4,k])=true:=by kernel_rfl
theorem afx:([1,2,3,4,5].all fun k=>jh 6 [5,k])=true:=by kernel_rfl
end Fi.S
