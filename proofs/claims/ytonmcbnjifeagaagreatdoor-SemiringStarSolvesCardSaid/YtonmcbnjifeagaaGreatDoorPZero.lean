/- Zero and One, by the kernel. -/
import Derived.Test.YtonmcbnjifeagaaGreatDoorCH
import Derived.Test.YtonmcbnjifeagaaGreatDoorCE
import Derived.Test.YtonmcbnjifeagaaGreatDoorFiH
set_option linter.unusedVariables false
set_option linter.unusedSimpArgs false
noncomputable section
noncomputable section
namespace Fi.S
open Go Fi
set_option maxHeartbeats 8000000
set_option maxRecDepth 10000
def one1:D:=.a [.v (.bool false),.s 1 [.v (.int .u32 1)],.s 1 []]
def poly1:D:=.s 6 [.a [.v (.int .i64 0),.v (.int .i64 0),.v (.int .i64 0),.v (.bool false),.s 1 [.v (.int .u32 1)],.s 1 []]]
def p153 (ds:List D):Option D :=
 match ds with
 | [d]=>if sameD d one1 then some poly1 else none
 | _=>none
def E6:Env:={fn:=fn,glob:=glob,prim:=fun g=>bif Nat.beq g 153 then some p153 else prim0 g,primB:=fun _=>none}
def zoB (f g:Nat)(r:D):Bool :=
 match callN E6 3000 f [.d r] [],callN E6 3000 g [.d r] [] with
 | some (.d z1,none),some (.d z2,none)=>sameD z1.norm z1&&sameD z2.norm z2&&yes (callN E6 3000 12 [.d z1,.d z2] [])
 | _,_=>false
def rings1:List D:=[1,2,3,4,5].map fun k=>rgD k []
def rings2 (a:Int):List D:=[1,2,3,4,5].map fun b=>rgD 6 [a,b]
def rings3 (a b:Int):List D:=[1,2,3,4,5].map fun c=>rgD 6 [a,b,c]
theorem qD_o:qD 1=one1:=by
 have h1:qs 1=false:=by decide
 have h2:qn 1=[1]:=by
  show enc 1=[1]
  exact enc_small (by omega) (by omega)
 have h3:qd 1=[]:=if_pos rfl;simp[qD,raw,h1,h2,h3,LD,LL,one1]
theorem listD_one:listD [((0,0,0),0+1)]=poly1:=by
 have h1:qs 1=false:=by decide
 have h2:qn 1=[1]:=by
  show enc 1=[1]
  exact enc_small (by omega) (by omega)
 have h3:qd 1=[]:=if_pos rfl;have h0:(0:Rat)+1=1:=Rat.zero_add 1;rw[h0];simp[listD,entOut,qC,moC,h1,h2,h3,LD,LL,poly1]
theorem has_const:∃ K,E6.Has E1 K 153 p153:=by
 have hz:qz 1<=50000:=by
  have h:qz 1=max (sz 1) (sz 1):=rfl;rw[h,sz_one];decide
 obtain⟨K,hK⟩:=ca_constant 1 hz;refine⟨K,rfl,rfl,rfl,rfl,fun g hg => ?_,fun g q hq=>(by cases hq),fun ds v hv n hn => ?_⟩
 ·show(bif Nat.beq g 153 then some p153 else prim0 g)=prim0 g;have:Nat.beq g 153=false:=by
   cases hb:Nat.beq g 153 with
   | false=>rfl
   | true=>exact absurd (Nat.eq_of_beq_eq_true hb) hg
  rw[this];rfl
 ·unfold p153 at hv;split at hv
  ·split at hv
   ·rename_i d hs;cases hv;rw[sameD_eq hs,<-qD_o,<-listD_one];exact hK n hn
   ·cases hv
  ·cases hv
end Fi.S
noncomputable section
namespace Fi.S
open Go Fi
set_option maxHeartbeats 8000000
set_option maxRecDepth 1000000
def zlit (k:Int):D:=.a [.v (.bool false),.s 1 [],.s 1 [],.v (.int .i64 0),.v (.bool (k==2)),.v (.int .u64 0),.s 6 [],.s 8 []]
def zlitD (k:Int)(ps:List Int):D:=if k=6 then .a [.v (.bool false),.s 1 [],.s 1 [],.v (.int .i64 0),.v (.bool false),.v (.int .u64 0),.s 6 [],.s 8 (ps.map zlit)] else zlit k
def zcB (k:Int)(ps:List Int):Bool :=
 (match callN E0 3000 26 [.d (rgD k ps)] [] with
  | some (.d z,none)=>sameD z (zlitD k ps)
  | _=>false) &&
 match callN E6 3000 27 [.d (rgD k ps)] [] with
  | some (.d z,none)=>sameD z.norm z&&yes (callN E6 3000 18 [.d (rgD k ps),.d z] [])
  | _=>false
end Fi.S
