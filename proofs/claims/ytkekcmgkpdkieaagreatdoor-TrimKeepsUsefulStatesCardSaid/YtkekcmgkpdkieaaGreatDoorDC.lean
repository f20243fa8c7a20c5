import Derived.Test.YtkekcmgkpdkieaaGreatDoorDB
set_option linter.unusedVariables false
set_option linter.unusedSimpArgs false
noncomputable section
namespace Fi.S
open Go Fi
set_option maxHeartbeats 8000000
set_option maxRecDepth 10000
section norm
variable {kk:Int} {ps:List Int} (hv:aR kk ps=true) {sy n:Nat} {aJ fin:List (List Sv)}
structure Made (kk:Int)(ps:List Int)(sy n:Nat)(aJ fin:List (List Sv)):Prop where
 s1:1<=sy/\sy<=32
 n1:n<=64
 li:aJ.length=n
 lf:fin.length=n
 wi:∀ x ∈ aJ,Wt kk ps x
 wf:∀ x ∈ fin,Wt kk ps x
abbrev acn (kk:Int)(ps:List Int)(sy n:Nat)(l:List (Ar (List Sv))):Prop:=l.length<=10/\∀ a ∈ l,Wt kk ps a.x/\(0<=a.f/\a.f<n)/\(1<=a.l/\a.l<=sy)/\(0<=a.t/\a.t<n)
variable (M:Made kk ps sy n aJ fin) {l:List (Ar (List Sv))} (hl:acn kk ps sy n l)
include hv M hl
end norm
end Fi.S
