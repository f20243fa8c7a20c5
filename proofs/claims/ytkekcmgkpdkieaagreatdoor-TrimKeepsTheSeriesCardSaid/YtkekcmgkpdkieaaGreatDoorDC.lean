import Derived.Test.YtkekcmgkpdkieaaGreatDoorDB
set_option linter.unusedVariables false
set_option linter.unusedSimpArgs false
noncomputable section
namespace Fi.S
open Go Fi
set_option maxHeartbeats 8000000
set_option maxRecDepth 10000
section norm
variable {kk:Int} {ps:List Int} (hv:aM kk ps=true) {sy n:Nat} {aK fin:List (List Sv)}
structure Made (kk:Int)(ps:List Int)(sy n:Nat)(aK fin:List (List Sv)):Prop where
 s1:1<=sy/\sy<=32
 n1:n<=64
 li:aK.length=n
 lf:fin.length=n
 wi:∀ x ∈ aK,Wt kk ps x
 wf:∀ x ∈ fin,Wt kk ps x
abbrev Ow (kk:Int)(ps:List Int)(sy n:Nat)(l:List (Ar (List Sv))):Prop:=l.length<=10/\∀ a ∈ l,Wt kk ps a.x/\(0<=a.f/\a.f<n)/\(1<=a.l/\a.l<=sy)/\(0<=a.t/\a.t<n)
variable (M:Made kk ps sy n aK fin) {l:List (Ar (List Sv))} (hl:Ow kk ps sy n l)
include hv M hl
theorem Lc:(∀ w ∈ aK.map (bV kk),w.OK)/\(∀ w ∈ fin.map (bV kk),w.OK)/\∀ a ∈ l,(bV kk a.x).OK :=
 ⟨fun w hw=>by obtain⟨x,hx,rfl⟩:=Qg1.1 hw;exact(Lb hv (M.wi x hx)).1,fun w hw=>by obtain⟨x,hx,rfl⟩:=Qg1.1 hw;exact(Lb hv (M.wf x hx)).1,fun a ha=>(Lb hv (hl.2 a ha).1).1⟩
theorem Ep:Ca E1 1026 [.d (tV kk ps sy n (aK.map (bV kk)) (fin.map (bV kk)) (bV kk) l)] (dB true,none)/\Ca E1 1020 [.d (tV kk ps sy n (aK.map (bV kk)) (fin.map (bV kk)) (bV kk) l)] (dB true,none):=by
 obtain⟨o1,o2,o3⟩:=Lc hv M hl;have h1:=M.n1;have h2:=M.li;have h3:=M.lf;have h4:=hl.1;have a1:=Xc (e:=bV kk) kk ps sy n (aK.map (bV kk)) (fin.map (bV kk)) l (tH hv) (by simp;omega) (by simp;omega) ae o1 o2 o3;have a2:=Iq (e:=bV kk) kk ps sy n (aK.map (bV kk)) (fin.map (bV kk)) l (tH hv) (by simp;omega) (by simp;omega) ae o1 o2 o3;rw[SB hv M.s1 M.n1 M.li M.lf M.wi M.wf ae hl.2]at a1 a2;exact⟨a1,a2⟩
theorem A7:Ca E1 1024 [.d (tV kk ps sy n (aK.map (bV kk)) (fin.map (bV kk)) (bV kk) l)] (.d (.t [tV kk ps sy n (aK.map (bV kk)) (fin.map (bV kk)) (bV kk) (dG (bO (dN kk ps)) (lV kk ps) l),vI 0]),none):=by
 have h1:=M.n1;have h2:=M.li;have h3:=M.lf;have h4:=hl.1;exact Ip (XN hv) sy n aK fin l (tH hv) ae ae ae ae (fun x hx=>(M.wi x hx).gf) (fun x hx=>(M.wf x hx).gf) (fun a ha=>(hl.2 a ha).1.gf) (Ep hv M hl).1
end norm
end Fi.S
