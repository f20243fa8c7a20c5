import Derived.Test.YtbbogkfadofneaaGreatDoorDB
set_option linter.unusedVariables false
set_option linter.unusedSimpArgs false
noncomputable section
namespace Fi.S
open Go Fi
set_option maxHeartbeats 8000000
set_option maxRecDepth 10000
section norm
variable {kk:Int} {ps:List Int} (hv:aK kk ps=true) {sy n:Nat} {bJ fin:List (List Sv)}
structure Made (kk:Int)(ps:List Int)(sy n:Nat)(bJ fin:List (List Sv)):Prop where
 s1:1<=sy/\sy<=32
 n1:n<=64
 li:bJ.length=n
 lf:fin.length=n
 wi:∀ x ∈ bJ,Wt kk ps x
 wf:∀ x ∈ fin,Wt kk ps x
abbrev Wd (kk:Int)(ps:List Int)(sy n:Nat)(l:List (Ar (List Sv))):Prop:=l.length<=10/\∀ a ∈ l,Wt kk ps a.x/\(0<=a.f/\a.f<n)/\(1<=a.l/\a.l<=sy)/\(0<=a.t/\a.t<n)
variable (M:Made kk ps sy n bJ fin) {l:List (Ar (List Sv))} (hl:Wd kk ps sy n l)
include hv M hl
theorem We:(∀ w ∈ bJ.map (cO kk),w.OK)/\(∀ w ∈ fin.map (cO kk),w.OK)/\∀ a ∈ l,(cO kk a.x).OK :=
 ⟨fun w hw=>by obtain⟨x,hx,rfl⟩:=Qi1.1 hw;exact(JY hv (M.wi x hx)).1,fun w hw=>by obtain⟨x,hx,rfl⟩:=Qi1.1 hw;exact(JY hv (M.wf x hx)).1,fun a ha=>(JY hv (hl.2 a ha).1).1⟩
theorem Di:Ca E1 1026 [.d (Fp kk ps sy n (bJ.map (cO kk)) (fin.map (cO kk)) (cO kk) l)] (dB true,none)/\Ca E1 1020 [.d (Fp kk ps sy n (bJ.map (cO kk)) (fin.map (cO kk)) (cO kk) l)] (dB true,none):=by
 obtain⟨o1,o2,o3⟩:=We hv M hl;have h1:=M.n1;have h2:=M.li;have h3:=M.lf;have h4:=hl.1;have a1:=Vw (e:=cO kk) kk ps sy n (bJ.map (cO kk)) (fin.map (cO kk)) l (yD hv) (by simp;omega) (by simp;omega) ae o1 o2 o3;have a2:=GU (e:=cO kk) kk ps sy n (bJ.map (cO kk)) (fin.map (cO kk)) l (yD hv) (by simp;omega) (by simp;omega) ae o1 o2 o3;rw[QU hv M.s1 M.n1 M.li M.lf M.wi M.wf ae hl.2]at a1 a2;exact⟨a1,a2⟩
theorem JZ:Ca E1 1024 [.d (Fp kk ps sy n (bJ.map (cO kk)) (fin.map (cO kk)) (cO kk) l)] (.d (.t [Fp kk ps sy n (bJ.map (cO kk)) (fin.map (cO kk)) (cO kk) (iU (bV (dW kk ps)) (yH kk ps) l),vI 0]),none):=by
 have h1:=M.n1;have h2:=M.li;have h3:=M.lf;have h4:=hl.1;exact GR (adr hv) sy n bJ fin l (yD hv) ae ae ae ae (fun x hx=>(M.wi x hx).gf) (fun x hx=>(M.wf x hx).gf) (fun a ha=>(hl.2 a ha).1.gf) (Di hv M hl).1
end norm
end Fi.S
