import Derived.Test.YtkekcmgkpdkieaaGreatDoorCH
import Derived.Test.YtkekcmgkpdkieaaGreatDoorCE
noncomputable section
namespace Fi.S
open Go Fi
set_option maxHeartbeats 8000000
set_option maxRecDepth 10000
def adV:D:=.a [.v (.bool false),.s 1 [.v (.int .u32 1)],.s 1 []]
def JL:D:=.s 6 [.a [.v (.int .i64 0),.v (.int .i64 0),.v (.int .i64 0),.v (.bool false),.s 1 [.v (.int .u32 1)],.s 1 []]]
def aaw (ds:List D):Option D :=
 match ds with
 | [d]=>if jI d adV then some JL else none
 | _=>none
def E6:Env:={fn:=fn,d9:=d9,ja:=fun g=>bif Nat.beq g 153 then some aaw else uK g,iF:=fun _=>none}
theorem ajs:qD 1=adV:=by
 have h1:qs 1=false:=by decide
 have h2:qn 1=[1]:=by
  show enc 1=[1]
  exact jr omK omK
 have h3:qd 1=[]:=if_pos rfl;simp[qD,raw,h1,h2,h3,LD,LL,adV]
theorem RV:nZ [((0,0,0),0+1)]=JL:=by
 have h1:qs 1=false:=by decide
 have h2:qn 1=[1]:=by
  show enc 1=[1]
  exact jr omK omK
 have h3:qd 1=[]:=if_pos rfl;have h0:(0:Rat)+1=1:=Rat.zero_add 1;rw[h0];simp[nZ,ek,qC,Ai,h1,h2,h3,LD,LL,JL]
theorem Qy:∃ K,E6.Has E1 K 153 aaw:=by
 have hz:qz 1<=50000:=by
  have h:qz 1=max (sz 1) (sz 1):=rfl;rw[h,Bt];decide
 obtain⟨K,hK⟩:=Jl 1 hz;refine⟨K,rfl,rfl,rfl,rfl,fun g hg => ?_,fun g q hq=>(by cases hq),fun ds v hv n hn => ?_⟩
 ·show(bif Nat.beq g 153 then some aaw else uK g)=uK g;have:Nat.beq g 153=false:=by
   cases hb:Nat.beq g 153 with
   | false=>rfl
   | true=>exact absurd (Ql2 hb) hg
  rw[this];rfl
 ·unfold aaw at hv;split at hv
  ·split at hv
   ·rename_i d hs;cases hv;rw[mM hs,<-ajs,<-RV];exact hK n hn
   ·cases hv
  ·cases hv
end Fi.S
noncomputable section
namespace Fi.S
open Go Fi
set_option maxHeartbeats 8000000
set_option maxRecDepth 1000000
def Mx (k:Int):D:=.a [.v (.bool false),.s 1 [],.s 1 [],.v (.int .i64 0),.v (.bool (k==2)),.v (.int .u64 0),.s 6 [],.s 8 []]
def U8 (k:Int)(ps:List Int):D:=if k=6 then .a [.v (.bool false),.s 1 [],.s 1 [],.v (.int .i64 0),.v (.bool false),.v (.int .u64 0),.s 6 [],.s 8 (ps.map Mx)] else Mx k
def GN (k:Int):D :=
 if k=4 then .a [.v (.bool false),.s 1 [],.s 1 [],.v (.int .i64 0),.v (.bool false),.v (.int .u64 18446744073709551615),.s 6 [],.s 8 []]
 else if k=2 then .a [.v (.bool false),.s 1 [],.s 1 [],.v (.int .i64 0),.v (.bool false),.v (.int .u64 0),.s 6 [],.s 8 []]
 else if k=5 then .a [.v (.bool false),.s 1 [],.s 1 [],.v (.int .i64 0),.v (.bool false),.v (.int .u64 0),JL,.s 8 []]
 else .a [.v (.bool false),.s 1 [.v (.int .u32 1)],.s 1 [],.v (.int .i64 0),.v (.bool false),.v (.int .u64 0),.s 6 [],.s 8 []]
def Fj (k:Int)(ps:List Int):D:=if k=6 then .a [.v (.bool false),.s 1 [],.s 1 [],.v (.int .i64 0),.v (.bool false),.v (.int .u64 0),.s 6 [],.s 8 (ps.map GN)] else GN k
def je (k:Int)(ps:List Int):Bool :=
 (match bW E0 3000 26 [.d (bA k ps)] [] with
  | some (.d z,none)=>jI z (U8 k ps)
  | _=>false) &&
 ((match bW E6 3000 27 [.d (bA k ps)] [] with
  | some (.d z,none)=>jI z (Fj k ps)
  | _=>false) &&
 match bW E6 3000 20 [.d (bA k ps)] [] with
  | some (.d z,none)=>jI z (Fj k ps)
  | _=>false)
theorem ahT:([1,2,3,4,5].all fun k=>je k [])=true:=by kernel_rfl
theorem aft:([1,2,3,4,5].all fun k=>je 6 [1,k])=true:=by kernel_rfl
theorem afu:([1,2,3,4,5].all fun k=>je 6 [2,k])=true:=by kernel_rfl
theorem afv:([1,2,3,4,5].all fun k=>je 6 [3,k])=true:=by kernel_rfl
theorem afw:([1,2,3,4,5].all fun k=>je 6 [4,k])=true:=by kernel_rfl
theorem afx:([1,2,3,4,5].all fun k=>je 6 [5,k])=true:=by kernel_rfl
end Fi.S
