import Derived.Test.YthojoinggmjklaaGreatDoorCH
import Derived.Test.YthojoinggmjklaaGreatDoorCE
set_option linter.unusedVariables false
set_option linter.unusedSimpArgs false
noncomputable section
noncomputable section
namespace Fi.S
open Go Fi
set_option maxHeartbeats 8000000
set_option maxRecDepth 10000
def ae':D:=.a [.v (.bool false),.s 1 [.v (.int .u32 1)],.s 1 []]
def Xv:D:=.s 6 [.a [.v (.int .i64 0),.v (.int .i64 0),.v (.int .i64 0),.v (.bool false),.s 1 [.v (.int .u32 1)],.s 1 []]]
def afa (ds:List D):Option D :=
 match ds with
 | [d]=>if jk d ae' then some Xv else none
 | _=>none
def E6:Env:={fn:=fn,dO:=dO,iF:=fun g=>bif Nat.beq g 153 then some afa else xk g,gU:=fun _=>none}
end Fi.S
noncomputable section
namespace Fi.S
open Go Fi
set_option maxHeartbeats 8000000
set_option maxRecDepth 1000000
def QX (k:Int):D:=.a [.v (.bool false),.s 1 [],.s 1 [],.v (.int .i64 0),.v (.bool (k==2)),.v (.int .u64 0),.s 6 [],.s 8 []]
def QY (k:Int)(ps:List Int):D:=if k=6 then .a [.v (.bool false),.s 1 [],.s 1 [],.v (.int .i64 0),.v (.bool false),.v (.int .u64 0),.s 6 [],.s 8 (ps.map QX)] else QX k
def adu (k:Int):D :=
 if k=4 then .a [.v (.bool false),.s 1 [],.s 1 [],.v (.int .i64 0),.v (.bool false),.v (.int .u64 18446744073709551615),.s 6 [],.s 8 []]
 else if k=2 then .a [.v (.bool false),.s 1 [],.s 1 [],.v (.int .i64 0),.v (.bool false),.v (.int .u64 0),.s 6 [],.s 8 []]
 else if k=5 then .a [.v (.bool false),.s 1 [],.s 1 [],.v (.int .i64 0),.v (.bool false),.v (.int .u64 0),Xv,.s 8 []]
 else .a [.v (.bool false),.s 1 [.v (.int .u32 1)],.s 1 [],.v (.int .i64 0),.v (.bool false),.v (.int .u64 0),.s 6 [],.s 8 []]
def Xw (k:Int)(ps:List Int):D:=if k=6 then .a [.v (.bool false),.s 1 [],.s 1 [],.v (.int .i64 0),.v (.bool false),.v (.int .u64 0),.s 6 [],.s 8 (ps.map adu)] else adu k
def iC (k:Int)(ps:List Int):Bool :=
 (match cK E0 3000 26 [.d (bG k ps)] [] with
  | some (.d z,none)=>jk z (QY k ps)
  | _=>false) &&
 ((match cK E6 3000 27 [.d (bG k ps)] [] with
  | some (.d z,none)=>jk z (Xw k ps)
  | _=>false) &&
 match cK E6 3000 20 [.d (bG k ps)] [] with
  | some (.d z,none)=>jk z (Xw k ps)
  | _=>false)
theorem ael:([1,2,3,4,5].all fun k=>iC k [])=true:=by kernel_rfl
theorem abM:([1,2,3,4,5].all fun k=>iC 6 [1,k])=true:=by kernel_rfl
theorem abN:([1,2,3,4,5].all fun k=>iC 6 [2,k])=true:=by kernel_rfl
theorem abO:([1,2,3,4,5].all fun k=>iC 6 [3,k])=true:=by kernel_rfl
theorem abP:([1,2,3,4,5].all fun k=>iC 6 [4,k])=true:=by kernel_rfl
theorem abQ:([1,2,3,4,5].all fun k=>iC 6 [5,k])=true:=by kernel_rfl
end Fi.S
