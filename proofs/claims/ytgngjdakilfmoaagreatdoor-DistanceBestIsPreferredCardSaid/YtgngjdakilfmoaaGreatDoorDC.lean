import Derived.Test.YtgngjdakilfmoaaGreatDoorDB
set_option linter.unusedVariables false
set_option linter.unusedSimpArgs false
noncomputable section
namespace Fi.S
open Go Fi
set_option maxHeartbeats 8000000
set_option maxRecDepth 10000
section norm
variable {kk:Int} {ps:List Int} (hv:aM kk ps=true) {sy n:Nat} {bg fin:List (List Sv)}
structure Made (kk:Int)(ps:List Int)(sy n:Nat)(bg fin:List (List Sv)):Prop where
 s1:1<=sy/\sy<=32
 n1:n<=64
 li:bg.length=n
 lf:fin.length=n
 wi:∀ x ∈ bg,Wt kk ps x
 wf:∀ x ∈ fin,Wt kk ps x
abbrev als (kk:Int)(ps:List Int)(sy n:Nat)(l:List (Ar (List Sv))):Prop:=l.length<=10/\∀ a ∈ l,Wt kk ps a.x/\(0<=a.f/\a.f<n)/\(1<=a.l/\a.l<=sy)/\(0<=a.t/\a.t<n)
variable (M:Made kk ps sy n bg fin) {l:List (Ar (List Sv))} (hl:als kk ps sy n l)
include hv M hl
end norm
end Fi.S
