import Derived.Test.YtbbogkfadofneaaGreatDoorDB
set_option linter.unusedVariables false
set_option linter.unusedSimpArgs false
noncomputable section
namespace Fi.S
open Go Fi
inductive ZT (m:List Bool)(st:List (Nat × Nat)):Nat->Prop
 | base {s:Nat} (h:m[s]?=some true):ZT m st s
 | step {p q:Nat} (h:(p,q) ∈ st) (g:ZT m st p):ZT m st q
theorem ZT.mono {m m':List Bool}{st st':List (Nat × Nat)}(h1:∀ s:Nat,m[s]?=some true->m'[s]?=some true)(h2:∀ x ∈ st,x ∈ st'){s:Nat}(h:ZT m st s):ZT m' st' s:=by
 induction h with
 | base h=>exact .base (h1 _ h)
 | step h _ ih=>exact .step (h2 _ h) ih
def sp1 (m:List Bool)(e:Nat × Nat):List Bool:=if m[e.1]?=some true then m.set e.2 true else m
def chg (m:List Bool)(e:Nat × Nat):Bool:=m.getD e.1 false && !m.getD e.2 false
theorem Fy {m:List Bool}{i:Nat}:m.getD i false=true↔m[i]?=some true:=by
 rw[Qk2];cases h:m[i]? with
 | none=>simp
 | some b=>simp
theorem ZU (m:List Bool)(e:Nat × Nat):(sp1 m e).length=m.length:=by unfold sp1;split<;>simp
theorem Wh {m:List Bool}{i s:Nat}(h:(m.set i true)[s]?=some true):s=i\/m[s]?=some true:=by
 by_cases hs:i=s
 ·exact .inl hs.symm
 ·rw[Qd0 hs]at h;exact .inr h
structure Sp (m0:List Bool)(st:List (Nat × Nat))(m:List Bool):Prop where
 len:m.length=m0.length
 le:∀ s:Nat,m0[s]?=some true->m[s]?=some true
 ok:∀ s:Nat,m[s]?=some true->ZT m0 st s
theorem Sp.refl (m:List Bool)(st:List (Nat × Nat)):Sp m st m:=⟨rfl,fun _ h=>h,fun _ h=>.base h⟩
theorem Sp.one {m0 m:List Bool}{st:List (Nat × Nat)}(h:Sp m0 st m){e:Nat × Nat}(he:e ∈ st):Sp m0 st (sp1 m e):=by
 refine⟨by rw[ZU,h.len],fun s hs => ?_,fun s hs => ?_⟩
 ·have:=h.le s hs;unfold sp1;split
  ·by_cases h2:e.2=s
   ·have hl:e.2<m.length:=by rw[h2];exact(bq this)
    rw[<-h2,Qf0 hl]
   ·rw[Qd0 h2];exact this
  ·exact this
 ·unfold sp1 at hs;split at hs
  ·rename_i h1;rcases Wh hs with rfl|g
   ·exact .step he (h.ok _ h1)
   ·exact h.ok _ g
  ·exact h.ok _ hs
noncomputable def spr (m:List Bool) (st:List (Nat × Nat)):List Bool:=(List.range m.length).map fun s=>@decide (ZT m st s) (Classical.propDecidable _)
theorem ZV (m:List Bool)(st:List (Nat × Nat)):(spr m st).length=m.length:=by simp[spr]
theorem ZW {m:List Bool}{st:List (Nat × Nat)}{s:Nat}:(spr m st)[s]?=some true↔s<m.length/\ZT m st s:=by
 unfold spr;rw[Qb2]
 by_cases h:s<m.length
 ·rw[Xq2 h];simp[h]
 ·rw[Qn2 (by simpa using h)];simp[h]
theorem Wi {l m:List Bool}(hl:l.length=m.length)(h:∀ s:Nat,l[s]?=some true↔m[s]?=some true):l=m:=by
 refine Xj2 fun s => ?_
 by_cases hs:s<l.length
 ·have g1:l[s]?=some l[s]:=Qa1 hs;have g2:m[s]?=some (m[s]'(by omega)):=Qa1 ae;have:=h s;rw[g1,g2]at this ⊢;cases h1:l[s]<;>cases h2:m[s]'(by omega)<;>simp_all
 ·rw[Qn2 ae,Qn2 ae]
theorem Sp.done {m0 m:List Bool}{st:List (Nat × Nat)}(h:Sp m0 st m)(hc:∀ e ∈ st,chg m e=false):m=spr m0 st:=by
 refine Wi (by rw[h.len,ZV]) fun s => ?_
 rw[ZW];constructor
 ·intro g;exact⟨by rw[<-h.len];exact(bq g),h.ok s g⟩
 ·rintro⟨-,g⟩
  induction g with
  | base g=>exact h.le _ g
  | @step p q he _ ih =>
   have:=hc _ he;unfold chg at this;rw[Fy.2 ih,Qr2]at this;exact Fy.1 (by simpa using this)
def pass (st:List (Nat × Nat))(m:List Bool):List Bool:=st.foldl sp1 m
def passes (st:List (Nat × Nat)):Nat->List Bool->List Bool
 | 0,m=>m
 | k+1,m=>pass st (passes st k m)
end Fi.S
noncomputable section
namespace Fi.S
open Go Fi
set_option maxHeartbeats 8000000
section
variable {α:Type}
def El (l:List (Ar α)):List (Nat × Nat):=l.map fun a=>(a.f.toNat,a.t.toNat)
variable {P:α->Prop} {pl tm:α->α->α} {z o:α}
end
end Fi.S
noncomputable section
namespace Fi.S
open Go Fi
set_option maxHeartbeats 8000000
set_option maxRecDepth 10000
theorem Wj {E:Env}{g:Nat}{F:bK}{args:List FV}{B:List ah}{o:Out}{st1:St}{r:FV × Option (List ah)}(hp:E.iV g=none)(hf:E.fn g=some F)(hl:args.length=F.np)
  (h:Ex E F.body {vars:=args++List.replicate (F.nv-F.np) .u,base:=B,loc:=[],aS:=false} (o,st1)) (ho:∀ id,o≠.exit id) (hr:finish F st1=some r):∃ N,∀ m,CL E (N+m) g args B=some r:=by
 obtain⟨n0,h⟩:=h;refine⟨n0,fun m => ?_⟩;rw[jy,AA hp hf hl,h _ ae];cases o with
 | exit id=>exact absurd rfl (ho id)
 | norm=>exact hr
 | ret=>exact hr
def Dat (o:ah):Prop:=(∃ cs:List D,o=.box (cs.map .d))\/∃ v s es,o=.row v s es
theorem ai5 (cs:List D):Dat (.box (cs.map .d)):=.inl ⟨cs,rfl⟩
def yT (X:List ah):Prop:=∀ o ∈ X,Dat o
theorem yT.nil:yT []:=fun o h=>by cases h
theorem yT.one {o:ah}(h:Dat o):yT [o]:=fun x hx=>by rw[Qz0.1 hx];exact h
theorem yT.add {X Y:List ah}(h:yT X)(k:yT Y):yT (X++Y):=fun o ho=>(Qv0.1 ho).elim (h o) (k o)
theorem yT.put {X:List ah}(h:yT X)(i:Nat){o:ah}(k:Dat o):yT (X.set i o):=fun x hx=>by
 rcases Q20 hx with g|rfl
 ·exact h x g
 ·exact k
theorem Fz (m:Nat):∀ cs:List D,FV.f_ m (cs.map .d)=cs.map .d
 | []=>rfl
 | c::cs=>by
  show FV.shift m (.d c)::FV.f_ m (cs.map .d)=_;rw[Fz m cs];rfl
theorem yT.shift {X:List ah}(h:yT X)(m:Nat):X.map (ah.shift m)=X:=by
 refine(Xq1 fun o ho => ?_).trans (List.map_id X);rcases h o ho with ⟨cs,rfl⟩|⟨v,s,es,rfl⟩
 ·show ah.box (FV.f_ m (cs.map .d))=_;rw[Fz];rfl
 ·rfl
variable {α:Type} {e:α->W} {dP:α->Bool} {kk:Int} {ps:List Int}
end Fi.S
noncomputable section
namespace Fi.S
open Go Fi
set_option maxHeartbeats 8000000
set_option maxRecDepth 10000
end Fi.S
noncomputable section
namespace Fi.S
open Go Fi
set_option maxHeartbeats 8000000
set_option maxRecDepth 10000
variable {α:Type} {e:α->W}
theorem three {L:List ah}{a b c:ah}(h0:L[0]?=some a)(h1:L[1]?=some b)(h2:L[2]?=some c):∃ T,L=a::b::c::T:=by
 match L,h0,h1,h2 with
 | a'::b'::c'::T,h0,h1,h2 =>
  simp at h0 h1 h2;subst h0 h1 h2;exact⟨T,rfl⟩
 | [],h0,_,_=>simp at h0
 | [_],_,h1,_=>simp at h1
 | [_,_],_,_,h2=>simp at h2
end Fi.S
noncomputable section
namespace Fi.S
open Go Fi
set_option maxHeartbeats 8000000
set_option maxRecDepth 10000
variable {α:Type} {e:α->W} {dP:α->Bool}
end Fi.S
noncomputable section
namespace Fi.S
open Go Fi
set_option maxHeartbeats 8000000
set_option maxRecDepth 10000
variable {α:Type} {e:α->W} {dP:α->Bool} {kk:Int} {ps:List Int}
end Fi.S
