import Derived.Test.YtkekcmgkpdkieaaGreatDoorDB
set_option linter.unusedVariables false
set_option linter.unusedSimpArgs false
noncomputable section
namespace Fi.S
open Go Fi
set_option maxHeartbeats 8000000
set_option maxRecDepth 10000
section norm
variable {kk:Int} {ps:List Int} (hv:aJ kk ps=true) {sy n:Nat} {aM fin:List (List Sv)}
structure Made (kk:Int)(ps:List Int)(sy n:Nat)(aM fin:List (List Sv)):Prop where
 s1:1<=sy/\sy<=32
 n1:n<=64
 li:aM.length=n
 lf:fin.length=n
 wi:∀ x ∈ aM,Wt kk ps x
 wf:∀ x ∈ fin,Wt kk ps x
abbrev Q8 (kk:Int)(ps:List Int)(sy n:Nat)(l:List (Ar (List Sv))):Prop:=l.length<=10/\∀ a ∈ l,Wt kk ps a.x/\(0<=a.f/\a.f<n)/\(1<=a.l/\a.l<=sy)/\(0<=a.t/\a.t<n)
variable (M:Made kk ps sy n aM fin) {l:List (Ar (List Sv))} (hl:Q8 kk ps sy n l)
include hv M hl
theorem Ki:(∀ w ∈ aM.map (bS kk),w.OK)/\(∀ w ∈ fin.map (bS kk),w.OK)/\∀ a ∈ l,(bS kk a.x).OK :=
 ⟨fun w hw=>by obtain⟨x,hx,rfl⟩:=Qg2.1 hw;exact(Kh hv (M.wi x hx)).1,fun w hw=>by obtain⟨x,hx,rfl⟩:=Qg2.1 hw;exact(Kh hv (M.wf x hx)).1,fun a ha=>(Kh hv (hl.2 a ha).1).1⟩
theorem vN:Ca E1 1026 [.d (uP kk ps sy n (aM.map (bS kk)) (fin.map (bS kk)) (bS kk) l)] (.d (.v (.bool true)),none)/\Ca E1 1020 [.d (uP kk ps sy n (aM.map (bS kk)) (fin.map (bS kk)) (bS kk) l)] (.d (.v (.bool true)),none):=by
 obtain⟨o1,o2,o3⟩:=Ki hv M hl;have h1:=M.n1;have h2:=M.li;have h3:=M.lf;have h4:=hl.1;have a1:=Vz (e:=bS kk) kk ps sy n (aM.map (bS kk)) (fin.map (bS kk)) l (vH hv) (by simp;omega) (by simp;omega) omK o1 o2 o3;have a2:=G5 (e:=bS kk) kk ps sy n (aM.map (bS kk)) (fin.map (bS kk)) l (vH hv) (by simp;omega) (by simp;omega) omK o1 o2 o3;rw[Q7 hv M.s1 M.n1 M.li M.lf M.wi M.wf omK hl.2]at a1 a2;exact⟨a1,a2⟩
theorem zZ:Ca E1 1024 [.d (uP kk ps sy n (aM.map (bS kk)) (fin.map (bS kk)) (bS kk) l)] (.d (.t [uP kk ps sy n (aM.map (bS kk)) (fin.map (bS kk)) (bS kk) (fD (bL (dz kk ps)) (Et kk ps) l),.v (.int .i64 0)]),none):=by
 have h1:=M.n1;have h2:=M.li;have h3:=M.lf;have h4:=hl.1;exact GZ (ai2 hv) sy n aM fin l (vH hv) omK omK omK omK (fun x hx=>(M.wi x hx).gf) (fun x hx=>(M.wf x hx).gf) (fun a ha=>(hl.2 a ha).1.gf) (vN hv M hl).1
theorem Q9:Ca E1 1027 [.d (uP kk ps sy n (aM.map (bS kk)) (fin.map (bS kk)) (bS kk) l),.d (uP kk ps sy n (aM.map (bS kk)) (fin.map (bS kk)) (bS kk) l)] (.d (.v (.bool true)),none):=by
 obtain⟨o1,o2,o3⟩:=Ki hv M hl;have h1:=M.n1;have h2:=M.li;have h3:=M.lf;have h4:=hl.1;have:=M8 (e:=bS kk) kk ps sy n (aM.map (bS kk)) (fin.map (bS kk)) l kk ps sy n (aM.map (bS kk)) (fin.map (bS kk)) l (vH hv) (vH hv) (by simp;omega) (by simp;omega) omK (by simp;omega) (by simp;omega) omK o1 o2 o3 o1 o2 o3;rw[G7]at this;exact this
end norm
end Fi.S
