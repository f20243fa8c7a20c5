import Derived.Test.YtbbogkfadofneaaGreatDoorCE
import Derived.Test.YtbbogkfadofneaaGreatDoorFiH
set_option linter.unusedVariables false
set_option linter.unusedSimpArgs false
noncomputable section
namespace Fi.S
open Go Fi
section
structure Tys (P:Program):Prop where
 ring:pK P 26 [(3,0,1),(22,1,1)] 2=true
 rat:pK P 40 [(4,0,1),(38,1,1),(38,2,1)] 3=true
 mono:pK P 92 [(90,0,3),(40,3,3)] 6=true
 weight:pK P 44 [(40,0,3),(3,3,1),(4,4,1),(41,5,1),(42,6,1),(28,7,1)] 8=true
 ints:sliceB P 22 3 1=true
 limbs:sliceB P 38 37 1=true
 poly:sliceB P 42 92 6=true
 parts:sliceB P 28 44 8=true
 arr:ab3 P 90 3 3 1=true
 int:PR P 3 .i64=true
 set:PR P 41 .u64=true
 limb:PR P 37 .u32=true
 bool:TT P 4=true
def Mo.Typ (m:Mo):Prop:=bY m.a/\bY m.b
def z_ (u:Int):Prop:=0<=u/\u<18446744073709551616
inductive W.Typ:W->Prop
 | mk {s:Bool} {a b:List Nat} {c:Int} {i:Bool} {u:Int} {p:List Mo} {ps:List W} (ha:bY a) (hb:bY b) (hp:∀ m ∈ p,m.Typ) (hu:z_ u) (h:∀ w ∈ ps,W.Typ w):W.Typ (.mk s a b c i u p ps)
theorem LM {cs:List Value}{n:Nat}(h:cs.length=n):IP cs 0 n=cs:=by rw[<-h,TU]
section lift
variable {H:Type} {enc:TypeId × Value->H} {P:Program} {w:World} {base:Nat} {held:Bool} {σ:Nat->Option FuncId} {sp:Nat->Bool} {fuel:Nat} {cs:List Value} {x:DataW H × List MemPlace}
theorem wf_i64 {n:Int}(h:(Lit.int .i64 n).wf=true):gy n:=by
 simp only[Lit.wf,Qb1,decide_eq_true_eq]at h;have e1:IntKind.min .i64=-9223372036854775808:=by rfl
 have e2:IntKind.max .i64=9223372036854775807:=by rfl
 unfold gy;rw[e1,e2]at h;omega
end lift
end
set_option maxHeartbeats 8000000
set_option maxRecDepth 4000
def Mo.TV (m:Mo):Bool:=decide ((m.a.length:Int)<=2)&&decide ((m.b.length:Int)<=2)
mutual
def W.TV:W->Bool
 | .mk _ a b _ _ _ p ps=>(decide ((a.length:Int)<=3)&&decide ((b.length:Int)<=3))&&decide (p.length<=8)&&decide (ps.length<=4)&&p.all Mo.TV&&W.TW ps
def W.TW:List W->Bool
 | []=>true
 | w::r=>w.TV&&W.TW r
end
end Fi.S
