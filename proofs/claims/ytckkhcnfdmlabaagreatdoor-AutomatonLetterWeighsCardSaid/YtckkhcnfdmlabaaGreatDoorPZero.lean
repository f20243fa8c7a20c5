import Derived.Test.YtckkhcnfdmlabaaGreatDoorCH
import Derived.Test.YtckkhcnfdmlabaaGreatDoorCE
set_option linter.unusedVariables false
set_option linter.unusedSimpArgs false
noncomputable section
noncomputable section
namespace Fi.S
open Go Fi
set_option maxHeartbeats 8000000
set_option maxRecDepth 10000
def ad1:D:=.a [.v (.bool false),.s 1 [.v (.int .u32 1)],.s 1 []]
def JN:D:=.s 6 [.a [.v (.int .i64 0),.v (.int .i64 0),.v (.int .i64 0),.v (.bool false),.s 1 [.v (.int .u32 1)],.s 1 []]]
def aaq (ds:List D):Option D :=
 match ds with
 | [d]=>if jO d ad1 then some JN else none
 | _=>none
def E6:Env:={fn:=fn,dZ:=dZ,ja:=fun g=>bif Nat.beq g 153 then some aaq else uZ g,iA:=fun _=>none}
theorem ajD:qD 1=ad1:=by
 have h1:qs 1=false:=by decide
 have h2:qn 1=[1]:=by
  show enc 1=[1]
  exact jD (by omega) (by omega)
 have h3:qd 1=[]:=if_pos rfl;simp[qD,raw,h1,h2,h3,LD,LL,ad1]
theorem RG:pE [((0,0,0),0+1)]=JN:=by
 have h1:qs 1=false:=by decide
 have h2:qn 1=[1]:=by
  show enc 1=[1]
  exact jD (by omega) (by omega)
 have h3:qd 1=[]:=if_pos rfl;have h0:(0:Rat)+1=1:=Rat.zero_add 1;rw[h0];simp[pE,d_,qC,AZ,h1,h2,h3,LD,LL,JN]
theorem Qh:∃ K,E6.Has E1 K 153 aaq:=by
 have hz:qz 1<=50000:=by
  have h:qz 1=max (sz 1) (sz 1):=rfl;rw[h,BZ];decide
 obtain⟨K,hK⟩:=Js 1 hz;refine⟨K,rfl,rfl,rfl,rfl,fun g hg => ?_,fun g q hq=>(by cases hq),fun ds v hv n hn => ?_⟩
 ·show(bif Nat.beq g 153 then some aaq else uZ g)=uZ g;have:Nat.beq g 153=false:=by
   cases hb:Nat.beq g 153 with
   | false=>rfl
   | true=>exact absurd (Nat.eq_of_beq_eq_true hb) hg
  rw[this];rfl
 ·unfold aaq at hv;split at hv
  ·split at hv
   ·rename_i d hs;cases hv;rw[nD hs,<-ajD,<-RG];exact hK n hn
   ·cases hv
  ·cases hv
end Fi.S
noncomputable section
namespace Fi.S
open Go Fi
set_option maxHeartbeats 8000000
set_option maxRecDepth 1000000
def Ml (k:Int):D:=.a [.v (.bool false),.s 1 [],.s 1 [],.v (.int .i64 0),.v (.bool (k==2)),.v (.int .u64 0),.s 6 [],.s 8 []]
def U6 (k:Int)(ps:List Int):D:=if k=6 then .a [.v (.bool false),.s 1 [],.s 1 [],.v (.int .i64 0),.v (.bool false),.v (.int .u64 0),.s 6 [],.s 8 (ps.map Ml)] else Ml k
def He (k:Int):D :=
 if k=4 then .a [.v (.bool false),.s 1 [],.s 1 [],.v (.int .i64 0),.v (.bool false),.v (.int .u64 18446744073709551615),.s 6 [],.s 8 []]
 else if k=2 then .a [.v (.bool false),.s 1 [],.s 1 [],.v (.int .i64 0),.v (.bool false),.v (.int .u64 0),.s 6 [],.s 8 []]
 else if k=5 then .a [.v (.bool false),.s 1 [],.s 1 [],.v (.int .i64 0),.v (.bool false),.v (.int .u64 0),JN,.s 8 []]
 else .a [.v (.bool false),.s 1 [.v (.int .u32 1)],.s 1 [],.v (.int .i64 0),.v (.bool false),.v (.int .u64 0),.s 6 [],.s 8 []]
def FM (k:Int)(ps:List Int):D:=if k=6 then .a [.v (.bool false),.s 1 [],.s 1 [],.v (.int .i64 0),.v (.bool false),.v (.int .u64 0),.s 6 [],.s 8 (ps.map He)] else He k
def je (k:Int)(ps:List Int):Bool :=
 (match bW E0 3000 26 [.d (aP k ps)] [] with
  | some (.d z,none)=>jO z (U6 k ps)
  | _=>false) &&
 ((match bW E6 3000 27 [.d (aP k ps)] [] with
  | some (.d z,none)=>jO z (FM k ps)
  | _=>false) &&
 match bW E6 3000 20 [.d (aP k ps)] [] with
  | some (.d z,none)=>jO z (FM k ps)
  | _=>false)
theorem ah0:([1,2,3,4,5].all fun k=>je k [])=true:=by kernel_rfl
theorem afm:([1,2,3,4,5].all fun k=>je 6 [1,k])=true:=by kernel_rfl
theorem afn:([1,2,3,4,5].all fun k=>je 6 [2,k])=true:=by kernel_rfl
theorem afo:([1,2,3,4,5].all fun k=>je 6 [3,k])=true:=by kernel_rfl
theorem afp:([1,2,3,4,5].all fun k=>je 6 [4,k])=true:=by kernel_rfl
theorem afq:([1,2,3,4,5].all fun k=>je 6 [5,k])=true:=by kernel_rfl
end Fi.S
