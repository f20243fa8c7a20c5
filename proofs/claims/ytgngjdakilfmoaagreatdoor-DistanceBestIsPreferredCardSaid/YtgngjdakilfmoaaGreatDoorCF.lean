import Derived.Test.YtgngjdakilfmoaaGreatDoorCE
import Derived.Test.YtgngjdakilfmoaaGreatDoorFiH
set_option linter.unusedVariables false
set_option linter.unusedSimpArgs false
noncomputable section
namespace Fi.S
open Go Fi
section
structure Tys (P:Program):Prop where
 ring:qI P 26 [(3,0,1),(22,1,1)] 2=true
 rat:qI P 34 [(4,0,1),(32,1,1),(32,2,1)] 3=true
 mono:qI P 107 [(105,0,3),(34,3,3)] 6=true
 weight:qI P 38 [(34,0,3),(3,3,1),(4,4,1),(35,5,1),(36,6,1),(27,7,1)] 8=true
 ints:sliceB P 22 3 1=true
 limbs:sliceB P 32 129 1=true
 poly:sliceB P 36 107 6=true
 parts:sliceB P 27 38 8=true
 arr:adX P 105 3 3 1=true
 int:QW P 3 .i64=true
 set:QW P 35 .u64=true
 limb:QW P 129 .u32=true
 bool:Vf P 4=true
def Mo.Typ (m:Mo):Prop:=bY m.a/\bY m.b
def A9 (u:Int):Prop:=0<=u/\u<18446744073709551616
inductive W.Typ:W->Prop
 | mk {s:Bool} {a b:List Nat} {c:Int} {i:Bool} {u:Int} {p:List Mo} {ps:List W} (ha:bY a) (hb:bY b) (hp:∀ m ∈ p,m.Typ) (hu:A9 u) (h:∀ w ∈ ps,W.Typ w):W.Typ (.mk s a b c i u p ps)
theorem M3 {cs:List Value}{n:Nat}(h:cs.length=n):JP cs 0 n=cs:=by rw[<-h,Vg]
section lift
variable {H:Type} {enc:TypeId × Value->H} {P:Program} {w:World} {base:Nat} {held:Bool} {σ:Nat->Option FuncId} {sp:Nat->Bool} {fuel:Nat} {cs:List Value} {x:DataW H × List MemPlace}
theorem wf_i64 {n:Int}(h:(Lit.int .i64 n).wf=true):ib n:=by
 simp only[Lit.wf,Qd0,decide_eq_true_eq]at h;have e1:IntKind.min .i64=-9223372036854775808:=by rfl
 have e2:IntKind.max .i64=9223372036854775807:=by rfl
 unfold ib;rw[e1,e2]at h;omega
end lift
end
set_option maxHeartbeats 8000000
set_option maxRecDepth 4000
def Mo.Vh (m:Mo):Bool:=decide ((m.a.length:Int)<=2)&&decide ((m.b.length:Int)<=2)
mutual
def W.Vh:W->Bool
 | .mk _ a b _ _ _ p ps=>(decide ((a.length:Int)<=3)&&decide ((b.length:Int)<=3))&&decide (p.length<=8)&&decide (ps.length<=4)&&p.all Mo.Vh&&W.Vi ps
def W.Vi:List W->Bool
 | []=>true
 | w::r=>w.Vh&&W.Vi r
end
end Fi.S
