import Derived.Test.YtkekcmgkpdkieaaGreatDoorCE
import Derived.Test.YtkekcmgkpdkieaaGreatDoorFiH
set_option linter.unusedVariables false
set_option linter.unusedSimpArgs false
noncomputable section
namespace Fi.S
open Go Fi
section
structure Tys (P:Program):Prop where
 ring:qJ P 26 [(3,0,1),(22,1,1)] 2=true
 rat:qJ P 46 [(4,0,1),(44,1,1),(44,2,1)] 3=true
 mono:qJ P 115 [(113,0,3),(46,3,3)] 6=true
 weight:qJ P 50 [(46,0,3),(3,3,1),(4,4,1),(47,5,1),(48,6,1),(28,7,1)] 8=true
 ints:sliceB P 22 3 1=true
 limbs:sliceB P 44 154 1=true
 poly:sliceB P 48 115 6=true
 parts:sliceB P 28 50 8=true
 arr:aei P 113 3 3 1=true
 int:Rk P 3 .i64=true
 set:Rk P 47 .u64=true
 limb:Rk P 154 .u32=true
 bool:Vt P 4=true
def Mo.Typ (m:Mo):Prop:=cu m.a/\cu m.b
def Bh (u:Int):Prop:=0<=u/\u<18446744073709551616
inductive W.Typ:W->Prop
 | mk {s:Bool} {a b:List Nat} {c:Int} {i:Bool} {u:Int} {p:List Mo} {ps:List W} (ha:cu a) (hb:cu b) (hp:∀ m ∈ p,m.Typ) (hu:Bh u) (h:∀ w ∈ ps,W.Typ w):W.Typ (.mk s a b c i u p ps)
theorem Nn {cs:List Value}{n:Nat}(h:cs.length=n):JV cs 0 n=cs:=by rw[<-h,Vu]
section lift
variable {H:Type} {enc:TypeId × Value->H} {P:Program} {w:World} {base:Nat} {held:Bool} {σ:Nat->Option FuncId} {sp:Nat->Bool} {fuel:Nat} {cs:List Value} {x:DataW H × List MemPlace}
theorem wf_i64 {n:Int}(h:(Lit.int .i64 n).wf=true):gM n:=by
 simp only[Lit.wf,Qc1,decide_eq_true_eq]at h;have e1:IntKind.min .i64=-9223372036854775808:=by rfl
 have e2:IntKind.max .i64=9223372036854775807:=by rfl
 unfold gM;rw[e1,e2]at h;omega
end lift
end
set_option maxHeartbeats 8000000
set_option maxRecDepth 4000
def Mo.Vv (m:Mo):Bool:=decide ((m.a.length:Int)<=2)&&decide ((m.b.length:Int)<=2)
mutual
def W.Vv:W->Bool
 | .mk _ a b _ _ _ p ps=>(decide ((a.length:Int)<=3)&&decide ((b.length:Int)<=3))&&decide (p.length<=8)&&decide (ps.length<=4)&&p.all Mo.Vv&&W.Vw ps
def W.Vw:List W->Bool
 | []=>true
 | w::r=>w.Vv&&W.Vw r
end
end Fi.S
