import Derived.Test.YtkekcmgkpdkieaaGreatDoorSEnv
noncomputable section
namespace Fi.S
open Go Fi
set_option maxHeartbeats 8000000
def ahV:D:=.a [vB false,.s 1 [.v (.int .u32 1)],.s 1 []]
def aae:D:=.s 6 [.a [vI 0,vI 0,vI 0,vB false,.s 1 [.v (.int .u32 1)],.s 1 []]]
def ahW (ds:List D):Option D :=
 match ds with
 | [d]=>if jH d ahV then some aae else none
 | _=>none
def E6:Env:={fn:=fn,dU:=dU,iK:=fun g=>bif Nat.beq g 153 then some ahW else yw g,iC:=fun _=>none}
end Fi.S
noncomputable section
namespace Fi.S
open Go Fi
set_option maxHeartbeats 8000000
set_option maxRecDepth 1000000
def Tj (k:Int):D:=.a [vB false,.s 1 [],.s 1 [],vI 0,vB (k==2),.v (.int .u64 0),.s 6 [],.s 8 []]
def Tk (k:Int)(ps:List Int):D:=if k=6 then .a [vB false,.s 1 [],.s 1 [],vI 0,vB false,.v (.int .u64 0),.s 6 [],.s 8 (ps.map Tj)] else Tj k
def agh (k:Int):D :=
 if k=4 then .a [vB false,.s 1 [],.s 1 [],vI 0,vB false,.v (.int .u64 18446744073709551615),.s 6 [],.s 8 []]
 else if k=2 then .a [vB false,.s 1 [],.s 1 [],vI 0,vB false,.v (.int .u64 0),.s 6 [],.s 8 []]
 else if k=5 then .a [vB false,.s 1 [],.s 1 [],vI 0,vB false,.v (.int .u64 0),aae,.s 8 []]
 else .a [vB false,.s 1 [.v (.int .u32 1)],.s 1 [],vI 0,vB false,.v (.int .u64 0),.s 6 [],.s 8 []]
def aaf (k:Int)(ps:List Int):D:=if k=6 then .a [vB false,.s 1 [],.s 1 [],vI 0,vB false,.v (.int .u64 0),.s 6 [],.s 8 (ps.map agh)] else agh k
def iT (k:Int)(ps:List Int):Bool :=
 (match dx E0 3000 26 [.d (bD k ps)] [] with
  | some (.d z,none)=>jH z (Tk k ps)
  | _=>false) &&
 ((match dx E6 3000 27 [.d (bD k ps)] [] with
  | some (.d z,none)=>jH z (aaf k ps)
  | _=>false) &&
 match dx E6 3000 20 [.d (bD k ps)] [] with
  | some (.d z,none)=>jH z (aaf k ps)
  | _=>false)
theorem ahc:([1,2,3,4,5].all fun k=>iT k [])=true:=by kernel_rfl
theorem aeE:([1,2,3,4,5].all fun k=>iT 6 [1,k])=true:=by kernel_rfl
theorem aeF:([1,2,3,4,5].all fun k=>iT 6 [2,k])=true:=by kernel_rfl
theorem aeG:([1,2,3,4,5].all fun k=>iT 6 [3,k])=true:=by kernel_rfl
theorem aeH:([1,2,3,4,5].all fun k=>iT 6 [4,k])=true:=by kernel_rfl
theorem aeI:([1,2,3,4,5].all fun k=>iT 6 [5,k])=true:=by kernel_rfl
end Fi.S
