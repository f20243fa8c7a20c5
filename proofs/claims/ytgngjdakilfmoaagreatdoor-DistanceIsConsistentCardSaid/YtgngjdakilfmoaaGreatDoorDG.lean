import Derived.Test.YtgngjdakilfmoaaGreatDoorDE
set_option linter.unusedVariables false
set_option linter.unusedSimpArgs false
noncomputable section
namespace Fi.S
open Go Fi
set_option maxHeartbeats 8000000
set_option maxRecDepth 10000
def sel {β:Type}(m:List Bool)(l:List β):List β:=((l.zip m).filter (·.2)).map (·.1)
end Fi.S
noncomputable section
namespace Fi.S
open Go Fi
set_option maxHeartbeats 8000000
set_option maxRecDepth 10000
variable {α:Type} {e:α->W}
end Fi.S
noncomputable section
namespace Fi.S
open Go Fi
set_option maxHeartbeats 8000000
section sel
variable {β:Type}
end sel
section trim
variable {α:Type} {dS:α->Bool} {pl:α->α->α}
variable {bg fin:List α} {l:List (Ar α)} {n:Nat}
end trim
end Fi.S
noncomputable section
namespace Fi.S
open Go Fi
set_option maxHeartbeats 8000000
set_option maxRecDepth 10000
variable {α:Type} {e:α->W}
def xW (pl tm:α->α->α)(z:α)(s:Int)(v out:List α)(a:Ar α):List α:=if a.l=s then out.set a.t.toNat (pl (out.getD a.t.toNat z) (tm (v.getD a.f.toNat z) a.x)) else out
def Gs (pl tm:α->α->α)(z:α)(n:Nat)(aJ:List (Ar α))(s:Int)(v:List α):List α:=aJ.foldl (xW pl tm z s v) (List.replicate n z)
theorem Ej (pl tm:α->α->α)(z:α)(s:Int)(v out:List α)(a:Ar α):(xW pl tm z s v out a).length=out.length:=by unfold xW;split<;>simp
theorem PX (pl tm:α->α->α)(z:α)(s:Int)(v:List α):∀ (l:List (Ar α)) (out:List α),(l.foldl (xW pl tm z s v) out).length=out.length
 | [],_=>rfl
 | a::l,out=>by rw[Ql1,PX pl tm z s v l,Ej]
theorem zI (pl tm:α->α->α)(z:α)(n:Nat)(aJ:List (Ar α))(s:Int)(v:List α):(Gs pl tm z n aJ s v).length=n:=by unfold Gs;rw[PX,Q61]
theorem getD_at {β:Type}{l:List β}{i:Nat}{z:β}(h:i<l.length):l[i]?=some (l.getD i z):=by
 rw[Qj0,Qa1 h];rfl
end Fi.S
noncomputable section
namespace Fi.S
open Go Fi
set_option maxHeartbeats 8000000
set_option maxRecDepth 10000
variable {α:Type} {e:α->W}
end Fi.S
noncomputable section
namespace Fi.S
open Go Fi
set_option maxHeartbeats 8000000
set_option maxRecDepth 10000
variable {α:Type} {e:α->W}
end Fi.S
noncomputable section
namespace Fi.S
open Go Fi
set_option maxHeartbeats 8000000
section
variable {α:Type} {P:α->Prop} {pl tm:α->α->α} {z o:α}
def hSt (tm:α->α->α)(z:α)(s:Int)(v:List α)(q:Nat)(a:Ar α):α:=if a.l=s/\a.t.toNat=q then tm (v.getD a.f.toNat z) a.x else z
theorem b_ {l:List α}(pz:P z)(h:∀ x ∈ l,P x)(i:Nat):P (l.getD i z):=by
 rw[Qj0];cases hi:l[i]? with
 | none=>exact pz
 | some x=>exact h x (Qa2 hi)
theorem XF (A:EW P pl tm z o)(s:Int){v:List α}(hv:∀ x ∈ v,P x)(q:Nat){a:Ar α}(ha:P a.x):P (hSt tm z s v q a):=by
 unfold hSt;split
 ·exact A.pt (b_ A.pz hv _) ha
 ·exact A.pz
theorem XG (A:EW P pl tm z o)(s:Int){v out:List α}(hv:∀ x ∈ v,P x)(ho:∀ x ∈ out,P x){a:Ar α}(ha:P a.x):∀ x ∈ xW pl tm z s v out a,P x:=by
 unfold xW;split
 ·intro x hx;rcases Q41 hx with h|rfl
  ·exact ho x h
  ·exact A.pp (b_ A.pz ho _) (A.pt (b_ A.pz hv _) ha)
 ·exact ho
theorem XH (A:EW P pl tm z o)(s:Int){v:List α}(hv:∀ x ∈ v,P x){n:Nat}:∀ (l:List (Ar α)) (out:List α),PA P l->(∀ a ∈ l,a.t.toNat<n)->out.length=n->(∀ x ∈ out,P x) ->
  (∀ x ∈ l.foldl (xW pl tm z s v) out,P x)/\∀ q,q<n->(l.foldl (xW pl tm z s v) out).getD q z=pl (out.getD q z) (sm pl z (l.map (hSt tm z s v q)))
 | [],out,_,_,_,ho=>⟨ho,fun q _=>(A.zero (b_ A.pz ho _)).symm⟩
 | a::l,out,hl,ht,hn,ho=>by
  have ha:=hl a aC;have hl':PA P l:=fun b hb=>hl b (by simp[hb])
  obtain⟨h1,h2⟩:=XH A s hv l (xW pl tm z s v out a) hl' (fun b hb=>ht b (by simp[hb])) (by rw[Ej];exact hn) (XG A s hv ho ha);rw[Ql1];refine⟨h1,fun q hq => ?_⟩;have hm:∀ w ∈ l.map (hSt tm z s v q),P w:=fun w hw=>by
   obtain⟨b,hb,rfl⟩:=Qg1.1 hw;exact XF A s hv q (hl' b hb)
  have px:=XF A s hv q ha;rw[h2 q hq,Qe2,jZ A px hm,<-A.assoc (b_ A.pz ho _) px (zF A hm)]
  congr 1
  unfold xW hSt
  by_cases g:a.l=s
  ·rw[if_pos g]
   by_cases g2:a.t.toNat=q
   ·subst g2;rw[if_pos ⟨g,rfl⟩,Qj0,Qd1 ae];rfl
   ·rw[if_neg (fun h=>g2 h.2),A.zero (b_ A.pz ho _),Qj0,Qb2 g2,<-Qj0]
  ·rw[if_neg g,if_neg (fun h=>g h.1),A.zero (b_ A.pz ho _)]
theorem XI (A:EW P pl tm z o)(s:Int){v:List α}(hv:∀ x ∈ v,P x){n:Nat}{l:List (Ar α)}(hl:PA P l)(ht:∀ a ∈ l,a.t.toNat<n):(∀ x ∈ Gs pl tm z n l s v,P x)/\∀ q,q<n->(Gs pl tm z n l s v).getD q z=sm pl z (l.map (hSt tm z s v q)):=by
 obtain⟨h1,h2⟩:=XH A s hv l (List.replicate n z) hl ht Q61 (fun x hx=>by rw[Xf2 hx];exact A.pz);refine⟨h1,fun q hq => ?_⟩;have hm:∀ w ∈ l.map (hSt tm z s v q),P w:=fun w hw=>by
  obtain⟨b,hb,rfl⟩:=Qg1.1 hw;exact XF A s hv q (hl b hb)
 show(l.foldl (xW pl tm z s v) (List.replicate n z)).getD q z=_;rw[h2 q hq,Qj0,Xh1,if_pos hq];exact A.zl (zF A hm)
theorem XJ {l m:List α}{n:Nat}(hl:l.length=n)(hm:m.length=n)(h:∀ q,q<n->l.getD q z=m.getD q z):l=m:=by
 refine Xp1 fun q => ?_
 by_cases hq:q<n
 ·have:=h q hq;rw[getD_at (z:=z) ae,getD_at (z:=z) ae,this]
 ·rw[Qp1 ae,Qp1 ae]
variable {dS:α->Bool}
section trim
variable (A:EW P pl tm z o) (hz:∀ x,P x->dS x=true->x=z) {n:Nat} {bg fin:List α} {l:List (Ar α)} (h1:bg.length=n) (h2:fin.length=n) (p1:∀ x ∈ bg,P x) (p2:∀ x ∈ fin,P x) (hl:PA P l) (hin:∀ a ∈ l,(0<=a.f/\a.f<n)/\(0<=a.t/\a.t<n))
include A hz h1 h2 p1 p2 hl hin
end trim
end
end Fi.S
