import Derived.Test.YtckkhcnfdmlabaaGreatDoorCE
import Derived.Test.YtckkhcnfdmlabaaGreatDoorFiH
set_option linter.unusedVariables false
set_option linter.unusedSimpArgs false
noncomputable section
namespace Fi.S
open Go Fi
section
structure Tys (P:Program):Prop where
 ring:oQ P 24 [(3,0,1),(22,1,1)] 2=true
 rat:oQ P 27 [(4,0,1),(25,1,1),(25,2,1)] 3=true
 mono:oQ P 65 [(63,0,3),(27,3,3)] 6=true
 weight:oQ P 32 [(27,0,3),(3,3,1),(4,4,1),(28,5,1),(29,6,1),(30,7,1)] 8=true
 ints:sliceB P 22 3 1=true
 limbs:sliceB P 25 142 1=true
 poly:sliceB P 29 65 6=true
 parts:sliceB P 30 32 8=true
 arr:aaC P 63 3 3 1=true
 int:OP P 3 .i64=true
 set:OP P 28 .u64=true
 limb:OP P 142 .u32=true
 bool:Sy P 4=true
def Mo.Typ (m:Mo):Prop:=bT m.a/\bT m.b
def zB (u:Int):Prop:=0<=u/\u<18446744073709551616
inductive W.Typ:W->Prop
 | mk {s:Bool} {a b:List Nat} {c:Int} {i:Bool} {u:Int} {p:List Mo} {ps:List W} (ha:bT a) (hb:bT b) (hp:∀ m ∈ p,m.Typ) (hu:zB u) (h:∀ w ∈ ps,W.Typ w):W.Typ (.mk s a b c i u p ps)
theorem KT {cs:List Value}{n:Nat}(h:cs.length=n):H9 cs 0 n=cs:=by rw[<-h,Sz]
section lift
variable {H:Type} {enc:TypeId × Value->H} {P:Program} {w:World} {base:Nat} {held:Bool} {σ:Nat->Option FuncId} {sp:Nat->Bool} {fuel:Nat} {cs:List Value} {x:DataW H × List MemPlace}
theorem wf_i64 {n:Int}(h:(Lit.int .i64 n).wf=true):fu n:=by
 simp only[Lit.wf,Bool.and_eq_true,decide_eq_true_eq]at h;have e1:IntKind.min .i64=-9223372036854775808:=by rfl
 have e2:IntKind.max .i64=9223372036854775807:=by rfl
 unfold fu;rw[e1,e2]at h;omega
end lift
end
end Fi.S
namespace Fi.S
open Go Fi
set_option maxHeartbeats 8000000
set_option maxRecDepth 4000
def Mo.SA (m:Mo):Bool:=decide ((m.a.length:Int)<=2)&&decide ((m.b.length:Int)<=2)
mutual
def W.SA:W->Bool
 | .mk _ a b _ _ _ p ps=>(decide ((a.length:Int)<=3)&&decide ((b.length:Int)<=3))&&decide (p.length<=8)&&decide (ps.length<=4)&&p.all Mo.SA&&W.SB ps
def W.SB:List W->Bool
 | []=>true
 | w::r=>w.SA&&W.SB r
end
end Fi.S
