import Derived.Test.YtckkhcnfdmlabaaGreatDoorCH
import Derived.Test.YtckkhcnfdmlabaaGreatDoorCE
set_option linter.unusedVariables false
set_option linter.unusedSimpArgs false
noncomputable section
noncomputable section
namespace Fi.S
open Go Fi
set_option maxHeartbeats 8000000
set_option maxRecDepth 10000
def ack:D:=.a [.v (.bool false),.s 1 [.v (.int .u32 1)],.s 1 []]
def IX:D:=.s 6 [.a [.v (.int .i64 0),.v (.int .i64 0),.v (.int .i64 0),.v (.bool false),.s 1 [.v (.int .u32 1)],.s 1 []]]
def Y2 (ds:List D):Option D :=
 match ds with
 | [d]=>if jy d ack then some IX else none
 | _=>none
def E6:Env:={fn:=fn,dY:=dY,iR:=fun g=>bif Nat.beq g 153 then some Y2 else tO g,ik:=fun _=>none}
theorem ahU:qD 1=ack:=by
 have h1:qs 1=false:=by decide
 have h2:qn 1=[1]:=by
  show enc 1=[1]
  exact jf (by omega) (by omega)
 have h3:qd 1=[]:=if_pos rfl;simp[qD,raw,h1,h2,h3,LD,LL,ack]
theorem QL:nP [((0,0,0),0+1)]=IX:=by
 have h1:qs 1=false:=by decide
 have h2:qn 1=[1]:=by
  show enc 1=[1]
  exact jf (by omega) (by omega)
 have h3:qd 1=[]:=if_pos rfl;have h0:(0:Rat)+1=1:=Rat.zero_add 1;rw[h0];simp[nP,dZ,qC,zC,h1,h2,h3,LD,LL,IX]
theorem Pg:∃ K,E6.Has E1 K 153 Y2:=by
 have hz:qz 1<=50000:=by
  have h:qz 1=max (sz 1) (sz 1):=rfl;rw[h,Ay];decide
 obtain⟨K,hK⟩:=Ik 1 hz;refine⟨K,rfl,rfl,rfl,rfl,fun g hg => ?_,fun g q hq=>(by cases hq),fun ds v hv n hn => ?_⟩
 ·show(bif Nat.beq g 153 then some Y2 else tO g)=tO g;have:Nat.beq g 153=false:=by
   cases hb:Nat.beq g 153 with
   | false=>rfl
   | true=>exact absurd (Nat.eq_of_beq_eq_true hb) hg
  rw[this];rfl
 ·unfold Y2 at hv;split at hv
  ·split at hv
   ·rename_i d hs;cases hv;rw[mo hs,<-ahU,<-QL];exact hK n hn
   ·cases hv
  ·cases hv
end Fi.S
noncomputable section
namespace Fi.S
open Go Fi
set_option maxHeartbeats 8000000
set_option maxRecDepth 1000000
def Lc (k:Int):D:=.a [.v (.bool false),.s 1 [],.s 1 [],.v (.int .i64 0),.v (.bool (k==2)),.v (.int .u64 0),.s 6 [],.s 8 []]
def TT (k:Int)(ps:List Int):D:=if k=6 then .a [.v (.bool false),.s 1 [],.s 1 [],.v (.int .i64 0),.v (.bool false),.v (.int .u64 0),.s 6 [],.s 8 (ps.map Lc)] else Lc k
def FZ (k:Int):D :=
 if k=4 then .a [.v (.bool false),.s 1 [],.s 1 [],.v (.int .i64 0),.v (.bool false),.v (.int .u64 18446744073709551615),.s 6 [],.s 8 []]
 else if k=2 then .a [.v (.bool false),.s 1 [],.s 1 [],.v (.int .i64 0),.v (.bool false),.v (.int .u64 0),.s 6 [],.s 8 []]
 else if k=5 then .a [.v (.bool false),.s 1 [],.s 1 [],.v (.int .i64 0),.v (.bool false),.v (.int .u64 0),IX,.s 8 []]
 else .a [.v (.bool false),.s 1 [.v (.int .u32 1)],.s 1 [],.v (.int .i64 0),.v (.bool false),.v (.int .u64 0),.s 6 [],.s 8 []]
def Ew (k:Int)(ps:List Int):D:=if k=6 then .a [.v (.bool false),.s 1 [],.s 1 [],.v (.int .i64 0),.v (.bool false),.v (.int .u64 0),.s 6 [],.s 8 (ps.map FZ)] else FZ k
def iW (k:Int)(ps:List Int):Bool :=
 (match bU E0 3000 26 [.d (bz k ps)] [] with
  | some (.d z,none)=>jy z (TT k ps)
  | _=>false) &&
 ((match bU E6 3000 27 [.d (bz k ps)] [] with
  | some (.d z,none)=>jy z (Ew k ps)
  | _=>false) &&
 match bU E6 3000 20 [.d (bz k ps)] [] with
  | some (.d z,none)=>jy z (Ew k ps)
  | _=>false)
theorem agm:([1,2,3,4,5].all fun k=>iW k [])=true:=by kernel_rfl
theorem adY:([1,2,3,4,5].all fun k=>iW 6 [1,k])=true:=by kernel_rfl
theorem adZ:([1,2,3,4,5].all fun k=>iW 6 [2,k])=true:=by kernel_rfl
theorem ad1:([1,2,3,4,5].all fun k=>iW 6 [3,k])=true:=by kernel_rfl
theorem ad2:([1,2,3,4,5].all fun k=>iW 6 [4,k])=true:=by kernel_rfl
theorem ad3:([1,2,3,4,5].all fun k=>iW 6 [5,k])=true:=by kernel_rfl
end Fi.S
