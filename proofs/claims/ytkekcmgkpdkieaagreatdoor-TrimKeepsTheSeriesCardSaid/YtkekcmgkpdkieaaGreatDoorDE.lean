import Derived.Test.YtkekcmgkpdkieaaGreatDoorDB
set_option linter.unusedVariables false
set_option linter.unusedSimpArgs false
noncomputable section
namespace Fi.S
open Go Fi
inductive yE (m:List Bool)(st:List (Nat × Nat)):Nat->Prop
 | base {s:Nat} (h:m[s]?=some true):yE m st s
 | step {p q:Nat} (h:(p,q) ∈ st) (g:yE m st p):yE m st q
theorem yE.mono {m m':List Bool}{st st':List (Nat × Nat)}(h1:∀ s:Nat,m[s]?=some true->m'[s]?=some true)(h2:∀ x ∈ st,x ∈ st'){s:Nat}(h:yE m st s):yE m' st' s:=by
 induction h with
 | base h=>exact .base (h1 _ h)
 | step h _ ih=>exact .step (h2 _ h) ih
def sp1 (m:List Bool)(e:Nat × Nat):List Bool:=if m[e.1]?=some true then m.set e.2 true else m
def Bo (m:List Bool)(e:Nat × Nat):Bool:=m.getD e.1 false && !m.getD e.2 false
def sp2 (x:List Bool × Bool)(e:Nat × Nat):List Bool × Bool:=(sp1 x.1 e,x.2||Bo x.1 e)
def cnt (m:List Bool):Nat:=(m.filter id).length
theorem kU {m:List Bool}{i:Nat}:m.getD i false=true↔m[i]?=some true:=by
 rw[Qh1];cases h:m[i]? with
 | none=>simp
 | some b=>simp
theorem Qi (m:List Bool)(e:Nat × Nat):(sp1 m e).length=m.length:=by unfold sp1;split<;>simp
theorem Er (m:List Bool):cnt m<=m.length:=Xh2 ..
theorem Qj:∀ {m:List Bool} {i:Nat},m[i]?=some false->cnt (m.set i true)=cnt m+1
 | b::m,0,h=>by
  simp at h;subst h;simp[cnt]
 | b::m,i+1,h=>by
  have ih:=Qj (m:=m) (i:=i) (by simpa using h);unfold cnt at*;rw[X70,X20,X20];split
  ·rw[Qf1,Qf1,ih]
  ·exact ih
theorem Ld:∀ {m:List Bool} {i:Nat},m[i]?=some true->m.set i true=m
 | b::m,0,h=>by simp at h;subst h;rfl
 | b::m,i+1,h=>by rw[X70,Ld (by simpa using h)]
theorem XP {m:List Bool}{i s:Nat}(h:(m.set i true)[s]?=some true):s=i\/m[s]?=some true:=by
 by_cases hs:i=s
 ·exact .inl hs.symm
 ·rw[Qb2 hs]at h;exact .inr h
structure Sp (m0:List Bool)(st:List (Nat × Nat))(m:List Bool):Prop where
 len:m.length=m0.length
 le:∀ s:Nat,m0[s]?=some true->m[s]?=some true
 ok:∀ s:Nat,m[s]?=some true->yE m0 st s
theorem Sp.refl (m:List Bool)(st:List (Nat × Nat)):Sp m st m:=⟨rfl,fun _ h=>h,fun _ h=>.base h⟩
theorem Sp.one {m0 m:List Bool}{st:List (Nat × Nat)}(h:Sp m0 st m){e:Nat × Nat}(he:e ∈ st):Sp m0 st (sp1 m e):=by
 refine⟨by rw[Qi,h.len],fun s hs => ?_,fun s hs => ?_⟩
 ·have:=h.le s hs;unfold sp1;split
  ·by_cases h2:e.2=s
   ·have hl:e.2<m.length:=by rw[h2];exact(aU this)
    rw[<-h2,Qd0 hl]
   ·rw[Qb2 h2];exact this
  ·exact this
 ·unfold sp1 at hs;split at hs
  ·rename_i h1;rcases XP hs with rfl|g
   ·exact .step he (h.ok _ h1)
   ·exact h.ok _ g
  ·exact h.ok _ hs
theorem Qk {m:List Bool}{e:Nat × Nat}(h2:e.2<m.length):if Bo m e=true then cnt (sp1 m e)=cnt m+1 else sp1 m e=m:=by
 have hg:m[e.2]?=some m[e.2]:=Qa1 h2;unfold Bo sp1
 by_cases h1:m[e.1]?=some true
 ·rw[kU.2 h1,if_pos h1,Qp1];cases hb:m[e.2] with
  | true =>
   rw[hb]at hg;rw[kU.2 hg,if_neg aC];exact Ld hg
  | false =>
   rw[hb]at hg;have:m.getD e.2 false=false:=by rw[Qh1,hg];rfl
   rw[this,if_pos aC];exact Qj hg
 ·have:m.getD e.1 false=false:=by
   cases hc:m.getD e.1 false with
   | false=>rfl
   | true=>exact absurd (kU.1 hc) h1
  rw[this,if_neg h1,if_neg aC]
theorem Gw {m0:List Bool}{st:List (Nat × Nat)}(hr:∀ e ∈ st,e.2<m0.length):∀ (l:List (Nat × Nat)) (m:List Bool) (c:Bool),(∀ e ∈ l,e ∈ st)->Sp m0 st m ->
  Sp m0 st (l.foldl sp2 (m,c)).1/\cnt m<=cnt (l.foldl sp2 (m,c)).1/\((l.foldl sp2 (m,c)).2=true->c=true\/cnt m<cnt (l.foldl sp2 (m,c)).1)/\((l.foldl sp2 (m,c)).2=false->c=false/\(l.foldl sp2 (m,c)).1=m/\∀ e ∈ l,Bo m e=false)
 | [],m,c,_,h=>⟨h,Qe1 _,fun h=>.inl h,fun h=>⟨h,rfl,aC⟩⟩
 | e::l,m,c,hl,h=>by
  have he:=hl e aC;have hc:=Qk (m:=m) (e:=e) (by rw[h.len];exact hr e he);obtain⟨h1,h2,h3,h4⟩:=Gw hr l (sp1 m e) (c||Bo m e) (fun e he=>hl e (by simp[he])) (h.one he);rw[Qk2]
  change Sp m0 st (l.foldl sp2 (sp1 m e,c||Bo m e)).1/\cnt m<=cnt (l.foldl sp2 (sp1 m e,c||Bo m e)).1/\((l.foldl sp2 (sp1 m e,c||Bo m e)).2=true->c=true\/cnt m<cnt (l.foldl sp2 (sp1 m e,c||Bo m e)).1)/\((l.foldl sp2 (sp1 m e,c||Bo m e)).2=false->c=false/\(l.foldl sp2 (sp1 m e,c||Bo m e)).1=m/\∀ e' ∈ e::l,Bo m e'=false)
  generalize l.foldl sp2 (sp1 m e,c||Bo m e)=r at*;cases hg:Bo m e with
  | true =>
   rw[hg,if_pos rfl]at hc;refine⟨h1,ae,fun _=>.inr ae,fun hr => ?_⟩;have:=(h4 hr).1;rw[hg,Bool.or_true]at this;cases this
  | false =>
   rw[hg,if_neg aC]at hc;rw[hc,hg,Bool.or_false]at h3 h4;rw[hc]at h2;refine⟨h1,h2,h3,fun hr => ?_⟩;obtain⟨k1,k2,k3⟩:=h4 hr;refine⟨k1,k2,fun e' he' => ?_⟩;rcases Qj0.1 he' with rfl|h
   ·exact hg
   ·exact k3 e' h
noncomputable def IA (m:List Bool) (st:List (Nat × Nat)):List Bool:=(List.range m.length).map fun s=>@decide (yE m st s) (Classical.propDecidable _)
theorem yF (m:List Bool)(st:List (Nat × Nat)):(IA m st).length=m.length:=by simp[IA]
theorem IB {m:List Bool}{st:List (Nat × Nat)}{s:Nat}:(IA m st)[s]?=some true↔s<m.length/\yE m st s:=by
 unfold IA;rw[Qc0]
 by_cases h:s<m.length
 ·rw[Xt0 h];simp[h]
 ·rw[Qq0 (by simpa using h)];simp[h]
theorem Lf {l m:List Bool}(hl:l.length=m.length)(h:∀ s:Nat,l[s]?=some true↔m[s]?=some true):l=m:=by
 refine Xr1 fun s => ?_
 by_cases hs:s<l.length
 ·have g1:l[s]?=some l[s]:=Qa1 hs;have g2:m[s]?=some (m[s]'(by omega)):=Qa1 ae;have:=h s;rw[g1,g2]at this ⊢;cases h1:l[s]<;>cases h2:m[s]'(by omega)<;>simp_all
 ·rw[Qq0 ae,Qq0 ae]
theorem Sp.done {m0 m:List Bool}{st:List (Nat × Nat)}(h:Sp m0 st m)(hc:∀ e ∈ st,Bo m e=false):m=IA m0 st:=by
 refine Lf (by rw[h.len,yF]) fun s => ?_
 rw[IB];constructor
 ·intro g;exact⟨by rw[<-h.len];exact(aU g),h.ok s g⟩
 ·rintro⟨-,g⟩
  induction g with
  | base g=>exact h.le _ g
  | @step p q he _ ih =>
   have:=hc _ he;unfold Bo at this;rw[kU.2 ih,Qp1]at this;exact kU.1 (by simpa using this)
def pass (st:List (Nat × Nat))(m:List Bool):List Bool:=st.foldl sp1 m
def passes (st:List (Nat × Nat)):Nat->List Bool->List Bool
 | 0,m=>m
 | k+1,m=>pass st (passes st k m)
end Fi.S
noncomputable section
namespace Fi.S
open Go Fi
set_option maxHeartbeats 8000000
section
variable {α:Type}
def nY (bD:α->Bool)(l:List α):List Bool:=l.map fun x => !bD x
def mZ (l:List (Ar α)):List (Nat × Nat):=l.map fun a=>(a.f.toNat,a.t.toNat)
def T9 (l:List (Ar α)):List (Nat × Nat):=l.map fun a=>(a.t.toNat,a.f.toNat)
def vz (bD:α->Bool)(aK fin:List α)(l:List (Ar α)):List Bool:=List.zipWith and (IA (nY bD aK) (mZ l)) (IA (nY bD fin) (T9 l))
theorem afC {l m:List Bool}{s:Nat}:(List.zipWith and l m)[s]?=some true↔l[s]?=some true/\m[s]?=some true:=by
 rw[List.getElem?_zipWith];cases l[s]?<;>cases m[s]?<;>simp
theorem qV (bD:α->Bool){aK fin:List α}(h:aK.length=fin.length)(l:List (Ar α)):(vz bD aK fin l).length=aK.length:=by
 unfold vz;rw[Xn2,yF,yF];simp[nY];omega
variable {P:α->Prop} {pl tm:α->α->α} {z o:α}
end
end Fi.S
noncomputable section
namespace Fi.S
open Go Fi
set_option maxHeartbeats 8000000
set_option maxRecDepth 10000
theorem tY {E:Env}{g:Nat}{F:bM}{args:List FV}{B:List ai}{o:Out}{st1:St}{r:FV × Option (List ai)}(hp:E.jl g=none)(hf:E.fn g=some F)(hl:args.length=F.np)
  (h:Ex E F.body {vars:=args++List.replicate (F.nv-F.np) .u,base:=B,loc:=[],aR:=false} (o,st1)) (ho:∀ id,o≠.exit id) (hr:finish F st1=some r):∃ N,∀ m,CL E (N+m) g args B=some r:=by
 obtain⟨n0,h⟩:=h;refine⟨n0,fun m => ?_⟩;rw[jR,BM hp hf hl,h _ ae];cases o with
 | exit id=>exact absurd rfl (ho id)
 | norm=>exact hr
 | ret=>exact hr
def Dat (o:ai):Prop:=(∃ cs:List D,o=.box (cs.map .d))\/∃ v s es,o=.row v s es
theorem SC (cs:List D):Dat (.box (cs.map .d)):=.inl ⟨cs,rfl⟩
theorem XQ (v s:Nat)(es:List D):Dat (.row v s es):=.inr ⟨v,s,es,rfl⟩
def gT (X:List ai):Prop:=∀ o ∈ X,Dat o
theorem gT.nil:gT []:=fun o h=>by cases h
theorem gT.one {o:ai}(h:Dat o):gT [o]:=fun x hx=>by rw[Q02.1 hx];exact h
theorem gT.add {X Y:List ai}(h:gT X)(k:gT Y):gT (X++Y):=fun o ho=>(Qw2.1 ho).elim (h o) (k o)
theorem gT.put {X:List ai}(h:gT X)(i:Nat){o:ai}(k:Dat o):gT (X.set i o):=fun x hx=>by
 rcases Q40 hx with g|rfl
 ·exact h x g
 ·exact k
theorem gT.SE {X:List ai}(h:gT X):gq X:=fun n=>by
 refine(Xb1 fun o ho => ?_).trans (List.map_id X);rcases h o ho with ⟨cs,rfl⟩|⟨v,s,es,rfl⟩
 ·exact j_ cs n
 ·rfl
theorem Gx (m:Nat):∀ cs:List D,FV.gG m (cs.map .d)=cs.map .d
 | []=>rfl
 | c::cs=>by
  show FV.shift m (.d c)::FV.gG m (cs.map .d)=_;rw[Gx m cs];rfl
theorem gT.shift {X:List ai}(h:gT X)(m:Nat):X.map (ai.shift m)=X:=by
 refine(Xb1 fun o ho => ?_).trans (List.map_id X);rcases h o ho with ⟨cs,rfl⟩|⟨v,s,es,rfl⟩
 ·show ai.box (FV.gG m (cs.map .d))=_;rw[Gx];rfl
 ·rfl
theorem zW {β γ:Type}(g:β->γ):∀ (l:List β) (p:List γ),l.foldl (fun aq a=>aq++[g a]) p=p++l.map g
 | [],p=>by simp
 | x::l,p=>by rw[Qk2,zW g l,Qd2,Qm1];rfl
def dW (l:List Bool):List D:=l.map fun b=>vB b
theorem qW (l:List Bool):(dW l).length=l.length:=by simp[dW]
theorem yG {l:List Bool}{i:Nat}{b:Bool}(h:l[i]?=some b):(dW l)[i]?=some (vB b):=by simp[dW,h]
theorem XR (l:List Bool)(i:Nat)(b:Bool):(dW l).set i (vB b)=dW (l.set i b):=by simp[dW,Q52]
variable {α:Type} {e:α->W} {bD:α->Bool} {kk:Int} {ps:List Int}
def mkL:aG:=f1509.body.r.r.l.r.bl.lp
def mkS (B:List ai)(ws:List D)(n j:Nat)(t:FV)(L:List ai):St :=
 {vars:=[.u,.u,rL 0,.u,.ls (.loc 1) 0 1 0 n,.u,.u,.d (.s 8 ws),dI n,dI j,t],base:=B,loc:=L,aR:=false}
theorem XT (B:List ai)(ws:List W)(n j:Nat)(x:W)(b:Bool)(hl:ws.length=n)(hn:n<=1000000)(hx:ws[j]?=some x)(L:List ai)(h0:L[0]?=some (aI kk ps))(R:List D)(b0:Bool)(hR:R[j]?=some (vB b0))(h1:L[1]?=some (.row 0 1 R))
  (hc:Ca E1 1104 [.d (aV kk ps),.d x.d] (dB b,none)) :
  Ex E1 mkL (mkS B (ws.map W.d) n j .u L) (.norm,mkS B (ws.map W.d) n (j+1) .u (L.set 1 (.row 0 1 (R.set j (vB !b)))++[.box (x.d.cells.map .d)])):=by
 obtain⟨N,t⟩:=hc.get;have hj:j<ws.length:=(aU hx)
 have hj0:(0:Int)<=(j:Int):=ae;have hjn:(j:Int)<(n:Int):=ae;have aS:ak .i64 ((j:Int)+1)=(j:Int)+1:=wrap_i64 ae;have hk1:((j+1:Nat):Int)=(j:Int)+1:=ae;have e1:(ws.map W.d)[j]?=some x.d:=by simp[hx]
 have hel:(ws.map W.d).length=n:=by simpa using hl
 have l0:0<L.length:=(aU h0)
 have l1:1<L.length:=(aU h1)
 have g0:∀ X,(L++X)[0]?=some (aI kk ps):=fun X=>by rw[Qa0 l0];exact h0
 have g1:∀ X,(L++X)[1]?=some (.row 0 1 R):=fun X=>by rw[Qa0 l1];exact h1
 have sA:∀ b b':ai,(L++[b]).set L.length b'=L++[b']:=fun b b'=>by simp
 have s1:∀ X r,(L++X).set 1 r=L.set 1 r++X:=fun X r=>Qr2 _ _ l1
 have hjR:j<R.length:=(aU hR)
 have iR:=idx hR;obtain⟨s,l2,l3,c,b',u,p,q,ex⟩:=x.aP;simp only[ex]at t e1 ⊢;clear ex hx hc;unfold aI aV wD at*;generalize ws.map W.d=es at*;have i0:=idx e1;have j0:=fun X=>idx (g0 X)
 have j1:=fun X=>idx (g1 X)
 have fJ:j<es.length:=(aU e1)
 refine Ex.of (n:=N+300) ?_;unfold mkS;rw[hk1];simp[mkL,f1509,t,hj0,hjn,fJ,hjR,aS,e1,i0,iR,j0,j1,g0,g1,h0,h1,sA,s1,l0,l1]
theorem abG (acc:List Bool)(b:Bool)(n j:Nat)(h:acc.length=j)(hj:j<n):(dW acc++List.replicate (n-j) (D.v (.bool false))).set j (vB b)=dW (acc++[b])++List.replicate (n-(j+1)) (D.v (.bool false)):=by
 obtain⟨d,hd⟩:∃ d,n-j=d+1:=⟨n-j-1,ae⟩
 rw[hd,show n-(j+1)=d by omega,Xb0,Qx1 _ _ (by rw[qW];omega),qW,h,Q51];simp[dW]
theorem XU (l:List α)(hn:l.length<=1000000)(hc:∀ x ∈ l,Ca E1 1104 [.d (aV kk ps),.d (e x).d] (dB (bD x),none))(B:List ai)(hB:gq B) :
  ∃ X i N,gT X/\B.length<=i/\(B++X)[i]?=some (.row 0 1 (dW (nY bD l)))/\∀ m,CL E1 (N+m) 1509 [.d (aV kk ps),.d (.s 8 ((l.map e).map W.d))] B=some (.ls (.old i) 0 1 0 l.length,some (B++X)):=by
 have hff:∀ (l:List α) (p:List Bool),l.foldl (fun p x=>p++[!bD x]) p=p++nY bD l:=by
  intro l
  induction l with
  | nil=>intro p;simp[nY]
  | cons a l ih=>intro p;rw[Qk2,ih];simp[nY]
 obtain⟨r,h1,L,h2,g0,g1,g2⟩:=Ex.fold (E:=E1) (b:=mkL) l (fun p x=>p++[!bD x]) []
  (fun j acc st=>∃ L,st=mkS B ((l.map e).map W.d) l.length j .u L/\L[0]?=some (aI kk ps)/\L[1]?=some (.row 0 1 (dW acc++List.replicate (l.length-j) (vB false)))/\acc.length=j/\gT L)
  (fun acc r=>∃ L,r=(.exit 0,mkS B ((l.map e).map W.d) l.length l.length (dB false) L)/\L[0]?=some (aI kk ps)/\L[1]?=some (.row 0 1 (dW acc))/\gT L)
  (fun j x st hx ⟨L,hst,g0,g1,g2,g3⟩=>by
   subst hst;have hj:j<l.length:=(aU hx)
   have k1:=XT (kk:=kk) (ps:=ps) B (l.map e) l.length j (e x) (bD x) aC hn (by simp[hx]) L g0 _ false (by rw[Qb1 (by rw[qW];omega),qW,g2,Q51,Qu2,if_pos ae]) g1 (hc x (Qa2 hx));rw[abG _ _ _ _ g2 hj]at k1;refine⟨_,k1,_,rfl,?_,?_,by rw[Qb0,g2];rfl,(g3.put 1 (XQ ..)).add (gT.one (SC _))⟩
   ·have:=(aU g0)
    rw[Qa0 (by simpa using this),Qb2 ae];exact g0
   ·have:=(aU g1)
    rw[Qa0 (by simpa using this),Qd0 this])
  (fun st ⟨L,hst,g0,g1,g2,g3⟩=>by
   subst hst;rw[Q51,List.replicate_zero,Q11]at g1;refine⟨_,Ex.of (n:=60) (r:=(.exit 0,mkS B ((l.map e).map W.d) l.length l.length (dB false) L)) ?_,aC,L,rfl,g0,g1,g3⟩;unfold mkS;simp[mkL,f1509])
  (st:=mkS B ((l.map e).map W.d) l.length 0 .u [aI kk ps,.row 0 1 (List.replicate l.length (vB false))]) ⟨_,rfl,rfl,by simp[dW],rfl,(gT.one (o:=aI kk ps) (SC [vI kk,.s 1 (LK .i64 ps)])).add (gT.one (XQ ..))⟩
 subst h2;rw[hff,Qs2]at g1;have hel:((l.map e).map W.d).length=l.length:=aC;generalize (l.map e).map W.d=es at*;have n2:(l.length:Int)<=(most:Int):=by unfold most;omega
 have sA:Ex E1 f1509.body.l {vars:=(.d (aV kk ps)::.d (.s 8 es)::Jh),base:=B,loc:=[],aR:=false}
   (.norm,{vars:=(.u::.d (.s 8 es)::rL 0::xh),base:=B,loc:=[aI kk ps],aR:=false}):=by
  apply e6;unfold aV aI;simp[f1509]
 have sB := nx sA f1509.body.r.l {vars:=(.u::.d (.s 8 es)::rL 0::.u::.ls (.loc 1) 0 1 0 l.length::rM),base:=B,loc:=[aI kk ps,.row 0 1 (List.replicate l.length (vB false))],aR:=false} (by
  apply e6;have n3:l.length<=most:=ae;simp[f1509,hel,n3])
 have sC := nx sB f1509.body.r.r.l.l (mkS B es l.length 0 .u [aI kk ps,.row 0 1 (List.replicate l.length (vB false))]) (by
  apply e6;unfold mkS;simp[f1509,hel])
 have sD:Ex E1 f1509.body.r.r.r (mkS B es l.length l.length (dB false) L) (.ret,{vars:=(.u::.u::.u::.ls (.loc 1) 0 1 0 l.length::qi),base:=B,loc:=L,aR:=false}):=by
  apply e6;unfold mkS;simp[f1509]
 obtain⟨N,t⟩:=tY (E:=E1) (g:=1509) (B:=B) (args:=[.d (aV kk ps),.d (.s 8 es)]) rfl (aO 1509 f1509:E1.fn _=_) rfl (sA.seq (sB.seq (Ex.seq (sC.seq (Ex.block h1)) sD))) aC (r:=(.ls (.old (B.length+1)) 0 1 0 l.length,some (B++L))) (by
  have e1:List.map (ai.aA B.length) B=B:=hB _;have e2:List.map (ai.aA B.length) L=L:=g2.SE _;simp[finish,dX,show f1509.res=[.var 3] from rfl,show f1509.ref=true from rfl,e1,e2,FV.aA])
 exact⟨L,B.length+1,N,g2,ae,by rw[Qb1 ae,Xf1];exact g1,t⟩
end Fi.S
noncomputable section
namespace Fi.S
open Go Fi
set_option maxHeartbeats 8000000
set_option maxRecDepth 10000
def SD (st:List (Nat × Nat)):List D:=st.map fun x=>.a [vI x.1,vI x.2]
theorem aix {st:List (Nat × Nat)}{j:Nat}{p q:Nat}(h:st[j]?=some (p,q)):(SD st)[j]?=some (.a [vI p,vI q]):=by simp[SD,h]
def XV:aG:=f1510.body.r.bl.lp
def Zm:aG:=f1510.body.r.bl.lp.r.bl.r.r.bl.lp
def Fu (i s n k:Nat)(B:List ai)(m:List Bool)(c:Bool)(v5 v6 v7 v8:FV)(L:List ai)(dt:Bool):St :=
 {vars:=[.ls (.old i) 0 1 0 n,.ls (.old s) 0 2 0 k,dB c,.u,.u,v5,v6,v7,v8,.u],base:=B.set i (.row 0 1 (dW m)),loc:=L,aR:=dt}
theorem XW (i s n k:Nat)(B:List ai)(hn:n<=1000000)(hk:k<=1000000)(hi:i<B.length)(his:i≠s)(st:List (Nat × Nat))(hB:B[s]?=some (.row 0 2 (SD st)))(hst:st.length=k)(m:List Bool)(hm:m.length=n)(c:Bool)(L:List ai)(dt:Bool)
  (j p q:Nat) (hj:st[j]?=some (p,q)) (b1 b2:Bool) (h1:m[p]?=some b1) (h2:m[q]?=some b2) :
  Ex E1 Zm (Fu i s n k B m c (.ls (.old s) 0 2 0 k) (dI k) (dI j) .u L dt)
   (.norm,Fu i s n k B (if b1 && !b2 then m.set q true else m) (if b1 && !b2 then true else c) (.ls (.old s) 0 2 0 k) (dI k) (dI (j+1:Nat)) .u (L++[.box [dI p,dI q]]) (if b1 && !b2 then true else dt)):=by
 have hjk:j<st.length:=(aU hj)
 have hj0:(0:Int)<=(j:Int):=ae;have hjn:(j:Int)<(k:Int):=ae;have aS:ak .i64 ((j:Int)+1)=(j:Int)+1:=wrap_i64 ae;have hk1:((j+1:Nat):Int)=(j:Int)+1:=ae;have hp:p<m.length:=(aU h1)
 have hq:q<m.length:=(aU h2)
 have hp0:(0:Int)<=(p:Int):=ae;have hq0:(0:Int)<=(q:Int):=ae;have hpn:(p:Int)<(n:Int):=ae;have hqn:(q:Int)<(n:Int):=ae;have e1:=aix hj;have e2:=yG h1;have e3:=yG h2;have ls:s<B.length:=(aU hB)
 have hg:∀ X,(B.set i (.row 0 1 (dW m))++X)[i]?=some (.row 0 1 (dW m)):=fun X=>by rw[Qa0 (by simpa using hi)];exact Qd0 hi
 have hs:∀ X,(B.set i (.row 0 1 (dW m))++X)[s]?=some (.row 0 2 (SD st)):=fun X=>by rw[Qa0 (by simpa using ls),Qb2 his];exact hB
 have hset:∀ r,(B.set i (.row 0 1 (dW m))).set i r=B.set i r:=fun r=>List.set_set ..
 have hil:i<(B.set i (.row 0 1 (dW m))).length:=by simpa using hi
 have sA:∀ c c':ai,(L++[c]).set L.length c'=L++[c']:=fun c c'=>by simp
 have hl1:¬ B.length<=i:=ae;have hsz:(SD st).length=k:=by simp[SD,hst]
 have Ms:(dW m).length=n:=by rw[qW,hm]
 have hw:=XR m q true;have fJ:j<(SD st).length:=ae;have hpe:p<(dW m).length:=ae;have hqe:q<(dW m).length:=ae;have i0:=fun X=>idx (hg X)
 have i1:=fun X=>idx (hs X)
 have i2:=idx e1;have i3:=idx e2;have i4:=idx e3;refine Ex.of (n:=300) ?_;unfold Fu;rw[hk1];clear h1 h2 hj hB;cases b1<;>cases b2
 ·simp[Zm,f1510,hj0,hjn,aS,hp0,hq0,hpn,hqn,e1,e2,e3,hg,hs,hset,hil,sA,fJ,hpe,hqe,i0,i1,i2,i3,i4]
 ·simp[Zm,f1510,hj0,hjn,aS,hp0,hq0,hpn,hqn,e1,e2,e3,hg,hs,hset,hil,sA,fJ,hpe,hqe,i0,i1,i2,i3,i4]
 ·simp only[Bool.not_false,Bool.and_self,if_true];rw[<-hw];simp[Zm,f1510,hj0,hjn,aS,hp0,hq0,hpn,hqn,e1,e2,e3,hg,hs,hset,hil,sA,fJ,hpe,hqe,i0,i1,i2,i3,i4,hi,hl1]
 ·simp[Zm,f1510,hj0,hjn,aS,hp0,hq0,hpn,hqn,e1,e2,e3,hg,hs,hset,hil,sA,fJ,hpe,hqe,i0,i1,i2,i3,i4]
theorem abH (i s n k:Nat)(B:List ai)(m:List Bool)(c:Bool)(L:List ai)(dt:Bool) :
  Ex E1 Zm (Fu i s n k B m c (.ls (.old s) 0 2 0 k) (dI k) (dI k) .u L dt) (.exit 2,Fu i s n k B m c (.ls (.old s) 0 2 0 k) (dI k) (dI k) (dB false) L dt):=by
 apply e6;unfold Fu;simp[Zm,f1510]
theorem abI (i s n k:Nat)(B:List ai)(hn:n<=1000000)(hk:k<=1000000)(hi:i<B.length)(his:i≠s)(st:List (Nat × Nat))(hB:B[s]?=some (.row 0 2 (SD st)))(hst:st.length=k)(hr:∀ x ∈ st,x.1<n/\x.2<n)(m:List Bool)(hm:m.length=n)(c:Bool)(L:List ai)(hL:gT L)(dt:Bool) :
  ∃ L' oZ,gT L'/\(oZ=false->dt=false/\(st.foldl sp2 (m,c)).1=m)/\Ex E1 (.loop Zm) (Fu i s n k B m c (.ls (.old s) 0 2 0 k) (dI k) (dI (0:Nat)) .u L dt)
   (.exit 2,Fu i s n k B (st.foldl sp2 (m,c)).1 (st.foldl sp2 (m,c)).2 (.ls (.old s) 0 2 0 k) (dI k) (dI k) (dB false) L' oZ):=by
 obtain⟨r,h1,L',oZ,h2,h3,h4⟩:=Ex.fold (E:=E1) (b:=Zm) st sp2 (m,c)
  (fun j x t=>∃ L oZ,t=Fu i s n k B x.1 x.2 (.ls (.old s) 0 2 0 k) (dI k) (dI j) .u L oZ/\gT L/\x.1.length=n/\(oZ=false->dt=false/\x.1=m))
  (fun x r=>∃ L oZ,r=(.exit 2,Fu i s n k B x.1 x.2 (.ls (.old s) 0 2 0 k) (dI k) (dI k) (dB false) L oZ)/\gT L/\(oZ=false->dt=false/\x.1=m))
  (fun j x t hx ⟨L,oZ,ht,g1,g2,g3⟩=>by
   subst ht;obtain⟨p,q⟩:=x;generalize (st.take j).foldl sp2 (m,c)=y at*;obtain⟨y1,y2⟩:=y;obtain⟨q1,q2⟩:=hr _ (Qa2 hx);simp only at q1 q2 g2 g3 ⊢;have a1:y1[p]?=some (y1[p]'(by omega)):=Qa1 ae;have a2:y1[q]?=some (y1[q]'(by omega)):=Qa1 ae;have k1:=XW i s n k B hn hk hi his st hB hst y1 g2 y2 L oZ j p q hx _ _ a1 a2;have hc:Bo y1 (p,q)=(y1[p]'(by omega) && !y1[q]'(by omega)):=by
    unfold Bo;rw[Qh1,Qh1,a1,a2];rfl
   rw[<-hc]at k1;have hs:=Qk (m:=y1) (e:=(p,q)) (by show q<_;omega);have e1:(if Bo y1 (p,q)=true then y1.set q true else y1)=sp1 y1 (p,q):=by
    cases hv:Bo y1 (p,q) with
    | false=>rw[hv,if_neg aC]at hs;rw[if_neg aC,hs]
    | true =>
     rw[if_pos rfl];unfold sp1;rw[hc]at hv;have:y1[p]'(by omega)=true:=by cases h:y1[p]'(by omega)<;>simp[h]at hv ⊢
     rw[if_pos (by rw[a1,this])]
   have e2:(if Bo y1 (p,q)=true then true else y2)=(y2||Bo y1 (p,q)):=by cases Bo y1 (p,q)<;>simp
   rw[e1,e2]at k1;refine⟨_,k1,_,_,rfl,g1.add (gT.one (SC [vI p,vI q])),by show(sp1 y1 (p,q)).length=n;rw[Qi,g2],fun h => ?_⟩;cases hv:Bo y1 (p,q) with
   | true=>rw[hv,if_pos rfl]at h;cases h
   | false =>
    rw[hv,if_neg aC]at h hs;exact⟨(g3 h).1,by show sp1 y1 (p,q)=m;rw[hs];exact(g3 h).2⟩)
  (fun t ⟨L,oZ,ht,g1,g2,g3⟩=>by
   subst ht;rw[hst];exact⟨_,abH i s n k B _ _ L oZ,aC,L,oZ,rfl,g1,g3⟩)
  (st:=Fu i s n k B m c (.ls (.old s) 0 2 0 k) (dI k) (dI (0:Nat)) .u L dt) ⟨L,dt,rfl,hL,hm,fun h=>⟨h,rfl⟩⟩
 subst h2;exact⟨L',oZ,h3,h4,h1⟩
def spread (i:Nat)(B:List ai)(m m':List Bool)(r:FV × Option (List ai)):Prop :=
 (r=(o8 [],none)/\m'=m)\/∃ L,gT L/\r=(o8 [],some (B.set i (.row 0 1 (dW m'))++L))
theorem SF (i s n k:Nat)(B:List ai)(hO:gq B)(hn:n<=1000000)(hk:k<=1000000)(his:i≠s)(st:List (Nat × Nat))(hB:B[s]?=some (.row 0 2 (SD st)))(hst:st.length=k)(hr:∀ x ∈ st,x.1<n/\x.2<n)(m:List Bool)(hm:m.length=n)(hi:B[i]?=some (.row 0 1 (dW m))) :
  ∃ r N,spread i B m (IA m st) r/\∀ x,CL E1 (N+x) 1510 [.ls (.old i) 0 1 0 n,.ls (.old s) 0 2 0 k] B=some r:=by
 have hil:i<B.length:=(aU hi)
 have hself:B.set i (.row 0 1 (dW m))=B:=by
  obtain⟨h,e'⟩:=Qq1.1 hi;rw[<-e',X30]
 have hr2:∀ x ∈ st,x.2<m.length:=fun x hx=>by rw[hm];exact(hr x hx).2
 obtain⟨r,h1,v5,v6,v7,L',oZ,h2,h3,h4⟩:=Ex.inv (E:=E1) (b:=XV)
  (fun a:(List Bool × Bool) × (FV × FV × FV × FV) × List ai × Bool=>Fu i s n k B a.1.1 a.1.2 a.2.1.1 a.2.1.2.1 a.2.1.2.2.1 a.2.1.2.2.2 a.2.2.1 a.2.2.2)
  (fun a=>(n-cnt a.1.1)+(if a.1.2 then 1 else 0))
  (fun a=>Sp m st a.1.1/\(a.1.2=false->∀ x ∈ st,Bo a.1.1 x=false)/\gT a.2.2.1/\(a.2.2.2=false->a.1.1=m))
  (fun r=>∃ v5 v6 v7 L dt,r=(.exit 0,{vars:=[.ls (.old i) 0 1 0 n,.ls (.old s) 0 2 0 k,.u,.u,dB false,v5,v6,v7,.u,.u],base:=B.set i (.row 0 1 (dW (IA m st))),loc:=L,aR:=dt})/\gT L/\(dt=false->IA m st=m))
  (fun a ⟨g1,g2,g3,g4⟩=>by
   obtain⟨⟨m1,c⟩,⟨v5,v6,v7,v8⟩,L,dt⟩:=a;simp only at g1 g2 g3 g4 ⊢;cases c with
   | false =>
    refine .inr ⟨_,Ex.of (n:=60) (r:=(.exit 0,{vars:=(.ls (.old i) 0 1 0 n::.ls (.old s) 0 2 0 k::.u::.u::dB false::jP),base:=B.set i (.row 0 1 (dW m1)),loc:=L,aR:=dt})) ?_,aC,.u,.u,.u,L,dt,?_,g3,?_⟩
    ·unfold Fu;simp[XV,f1510]
    ·rw[g1.done (g2 rfl)]
    ·intro h;rw[<-g1.done (g2 rfl)];exact g4 h
   | true =>
    have hm1:m1.length=n:=by rw[g1.len,hm]
    obtain⟨L',oZ,k1,k2,k3⟩:=abI i s n k B hn hk hil his st hB hst hr m1 hm1 false L g3 dt;obtain⟨q1,q2,q3,q4⟩:=Gw hr2 st m1 false (fun _ h=>h) g1;generalize st.foldl sp2 (m1,false)=y at*;obtain⟨y1,y2⟩:=y;simp only at k2 k3 q1 q2 q3 q4;have sA:Ex E1 XV.l (Fu i s n k B m1 true v5 v6 v7 v8 L dt) (.norm,{vars:=(.ls (.old i) 0 1 0 n::.ls (.old s) 0 2 0 k::.u::.u::dB true::jP),base:=B.set i (.row 0 1 (dW m1)),loc:=L,aR:=dt}):=by
     apply e6;unfold Fu;simp[XV,f1510]
    have sB := nx sA XV.r.bl.l (Fu i s n k B m1 false .u .u .u .u L dt) (by
     apply e6;unfold Fu;simp[XV,f1510])
    have sC := nx sB XV.r.bl.r.l (Fu i s n k B m1 false (.ls (.old s) 0 2 0 k) (dI k) (dI (0:Nat)) .u L dt) (by
     apply e6;unfold Fu;rw[show((0:Nat):Int)=0 from rfl];simp[XV,f1510])
    refine .inl ⟨((y1,y2),(.ls (.old s) 0 2 0 k,dI k,dI k,dB false),L',oZ),?_,?_,q1,fun h => ?_,k1,fun h => ?_⟩
    ·show Ex E1 (.seq XV.l (.block 1 (.seq XV.r.bl.l (.seq XV.r.bl.r.l (.block 2 (.loop Zm)))))) _ _;exact sA.seq (Ex.fE (sB.seq (sC.seq (Ex.block k3))))
    ·simp only;have:=Er m1;have:=Er y1;rw[q1.len,hm]at this;cases y2 with
     | false=>simp;omega
     | true =>
      rcases q3 rfl with h|h
      ·cases h
      ·simp;omega
    ·obtain⟨_,e1,e2⟩:=q4 h;simp only at e1 e2 ⊢;rw[e1];exact e2
    ·obtain⟨e1,e2⟩:=k2 h;simp only at e2 ⊢;rw[e2];exact g4 e1)
  ((m,true),(.u,.u,.u,.u),[],false) ⟨Sp.refl m st,(fun h=>by simp at h),gT.nil,(fun _=>rfl)⟩
 subst h2;have sA:Ex E1 f1510.body.l {vars:=(.ls (.old i) 0 1 0 n::.ls (.old s) 0 2 0 k::xh),base:=B,loc:=[],aR:=false} (.norm,Fu i s n k B m true .u .u .u .u [] false):=by
  apply e6;unfold Fu;rw[hself];simp[f1510]
 have hb:=sA.seq (Ex.block h1);cases oZ with
 | false =>
  obtain⟨N,t⟩:=tY (E:=E1) (g:=1510) (B:=B) (args:=[.ls (.old i) 0 1 0 n,.ls (.old s) 0 2 0 k]) rfl (k1510:E1.fn _=_) rfl hb aC (r:=(o8 [],none)) (by
   simp[finish,dX,show f1510.res=[] from rfl,show f1510.ref=true from rfl,kG,oneOf,o8,jI])
  exact⟨_,N,.inl ⟨rfl,h4 rfl⟩,t⟩
 | true =>
  have e1:List.map (ai.aA B.length) (B.set i (.row 0 1 (dW (IA m st))))=B.set i (.row 0 1 (dW (IA m st))):=(hO.put i (fun n=>rfl)) _;have e2:List.map (ai.aA B.length) L'=L':=h3.SE _;obtain⟨N,t⟩:=tY (E:=E1) (g:=1510) (B:=B) (args:=[.ls (.old i) 0 1 0 n,.ls (.old s) 0 2 0 k]) rfl (k1510:E1.fn _=_) rfl hb aC (r:=(o8 [],some (B.set i (.row 0 1 (dW (IA m st)))++L'))) (by
   simp[finish,dX,show f1510.res=[] from rfl,show f1510.ref=true from rfl,kG,oneOf,o8,jI,e1,e2,FV.aA,FV.aT])
  exact⟨_,N,.inr ⟨L',h3,rfl⟩,t⟩
end Fi.S
noncomputable section
namespace Fi.S
open Go Fi
set_option maxHeartbeats 8000000
set_option maxRecDepth 10000
variable {α:Type} {e:α->W}
def Ar.turn (a:Ar α):Ar α:=⟨a.t,a.l,a.f,a.x⟩
theorem XX (l:List (Ar α)):mZ (l.map Ar.turn)=T9 l:=by simp[mZ,T9,Ar.turn,Xm0]
def XY (px:FV)(L:List ai)(aq:List D):Prop:=(px=.d (.n 11)/\aq=[])\/∃ i az,3<=i/\px=.ls (.loc i) az 11 0 aq.length/\L[i]?=some (.row az 11 aq)
def dA (kk:Int)(ps:List Int)(sy st:Int)(aK fin:List D)(px:FV):ai:=.box [dI kk,.d (.s 1 (LK .i64 ps)),dI sy,dI st,.d (.s 8 aK),.d (.s 8 fin),px]
def tnL:aG:=f1508.body.r.r.r.l.r.bl.lp
def Mt (av:List D)(L:List ai)(j:Nat)(t:FV):St :=
 (st0 [.u,.u,rL 1,rL 2,.u,.d (.s 11 av),dI av.length,dI j,t] L)
theorem XZ (kk:Int)(ps:List Int)(sy st:Int)(aK fin:List D)(av:List (Ar α))(h3:av.length<=1000000)(L:List ai)(px:FV)(aq:List D)(hlen:aq.length<=1000000)(h2:L[2]?=some (dA kk ps sy st aK fin px))(ho:XY px L aq)
  (j:Nat) (a:Ar α) (ha:av[j]?=some a) :
  ∃ qM L',Ex E1 tnL (Mt (av.map (Ar.d e)) L j .u) (.norm,Mt (av.map (Ar.d e)) L' (j+1) .u)/\(∀ i,i<2->L'[i]?=L[i]?)/\L'[2]?=some (dA kk ps sy st aK fin qM)/\XY qM L' (aq++[a.turn.d e]):=by
 have hj:j<av.length:=(aU ha)
 have hj0:(0:Int)<=(j:Int):=ae;have aS:ak .i64 ((j:Int)+1)=(j:Int)+1:=wrap_i64 ae;have hk1:((j+1:Nat):Int)=(j:Int)+1:=ae;have e1:(av.map (Ar.d e))[j]?=some (a.d e):=by simp[ha]
 have l2:2<L.length:=(aU h2)
 have m1:152<=most:=by unfold most;omega
 have m2:1<=most:=by unfold most;omega
 have m3:(aq.length+1)*152<=most:=by unfold most;omega
 have m4:aq.length+1<=most:=by unfold most;omega
 have sA:∀ b b':ai,(L++[b]).set L.length b'=L++[b']:=fun b b'=>by simp
 have hg:∀ b:ai,(L++[b])[L.length]?=some b:=fun b=>by simp
 have g2:∀ X,(L++X)[2]?=some (dA kk ps sy st aK fin px):=fun X=>by rw[Qa0 l2];exact h2
 have s2:∀ X r,(L++X).set 2 r=L.set 2 r++X:=fun X r=>Qr2 _ _ l2
 obtain⟨s,l1,l3,c,b,u',q,ps',ew,ed⟩:=a.fH e;have ed':a.turn.d e=pQ a.t a.l a.f s l1 l3 c b u' q ps':=by
  obtain⟨f',l',t',x'⟩:=a;unfold Ar.turn Ar.d pQ at*;simp only at ew;rw[ew];rfl
 rw[ed'];rw[ed]at e1;unfold pQ at*;clear ew ed ed';rcases ho with ⟨rfl,rfl⟩|⟨i,az,h5,rfl,h7⟩
 ·refine⟨.ls (.loc (L.length+1)) 0 11 0 1,L.set 2 (dA kk ps sy st aK fin (.ls (.loc (L.length+1)) 0 11 0 1))++[.box [dI a.t,dI a.l,dI a.f,dB s,.d (.s 1 l1),.d (.s 1 l3),dI c,dB b,.d (.v (.int .u64 u')),.d (.s 6 q),.d (.s 8 ps')],.row 0 11 [.a [vI a.t,vI a.l,vI a.f,vB s,.s 1 l1,.s 1 l3,vI c,vB b,.v (.int .u64 u'),.s 6 q,.s 8 ps']]],?_,fun i hi => ?_,?_,.inr ⟨L.length+1,0,ae,rfl,?_⟩⟩
  ·refine Ex.of (n:=300) ?_;unfold Mt dA at*;rw[hk1];generalize LK .i64 ps=l9,av.map (Ar.d e)=x3 at*;have i1:=idx e1;have fJ:j<x3.length:=(aU e1)
   have hjl:(j:Int)<(x3.length:Int):=ae;have i2:=fun X=>idx (g2 X)
   simp[tnL,f1508,hj0,fJ,hjl,aS,e1,i1,i2,g2,h2,hg,sA,s2,l2,m1,m2]
  ·rw[Qa0 (by simp;omega),Qb2 ae]
  ·rw[Qa0 (by simpa using l2)];exact Qd0 l2
  ·rw[Qb1 aC];simp
 ·have hil:i<L.length:=(aU h7)
  refine⟨.ls (.loc i) (az+1) 11 0 (aq.length+1),(L.set i (.row (az+1) 11 (aq++[.a [vI a.t,vI a.l,vI a.f,vB s,.s 1 l1,.s 1 l3,vI c,vB b,.v (.int .u64 u'),.s 6 q,.s 8 ps']]))).set 2 (dA kk ps sy st aK fin (.ls (.loc i) (az+1) 11 0 (aq.length+1)))++[.box [dI a.t,dI a.l,dI a.f,dB s,.d (.s 1 l1),.d (.s 1 l3),dI c,dB b,.d (.v (.int .u64 u')),.d (.s 6 q),.d (.s 8 ps')]],?_,fun i' hi => ?_,?_,.inr ⟨i,az+1,h5,aC,?_⟩⟩
  ·refine Ex.of (n:=300) ?_;unfold Mt dA at*;rw[hk1];have hne:i≠2:=ae;have gi:∀ X,(L++X)[i]?=some (.row az 11 aq):=fun X=>by rw[Qa0 hil];exact h7
   have si:∀ X r,(L++X).set i r=L.set i r++X:=fun X r=>Qr2 _ _ hil
   have g2':∀ r X,(L.set i r++X)[2]?=some (.box [dI kk,.d (.s 1 (LK .i64 ps)),dI sy,dI st,.d (.s 8 aK),.d (.s 8 fin),.ls (.loc i) az 11 0 aq.length]):=fun r X=>by rw[Qa0 (by simpa using l2),Qb2 hne];exact h2
   have s2':∀ r X o,(L.set i r++X).set 2 o=(L.set i r).set 2 o++X:=fun r X o=>Qr2 _ _ (by simpa using l2)
   have tkr:aq.take aq.length=aq:=Qj1;generalize av.map (Ar.d e)=x3 at*;have i1:=idx e1;have fJ:j<x3.length:=(aU e1)
   have hjl:(j:Int)<(x3.length:Int):=ae;have i2:=fun X=>idx (g2 X)
   have i3:=fun X=>idx (gi X)
   have i4:∀ r X (h:2<(L.set i r++X).length),(L.set i r++X)[2]=_:=fun r X h=>idx (g2' r X) h
   simp[tnL,f1508,hj0,fJ,hjl,aS,e1,i1,i2,i3,i4,g2,g2',gi,h2,h7,hg,sA,s2,s2',si,l2,hil,tkr,m3,m4]
  ·rw[Qa0 (by simp;omega),Qb2 ae,Qb2 ae]
  ·rw[Qa0 (by simpa using l2)];exact Qd0 (by simpa using l2)
  ·rw[Qa0 (by simpa using hil),Qb2 ae];exact Qd0 hil
theorem abJ (av:List D)(L:List ai):Ex E1 tnL (Mt av L av.length .u) (.exit 0,Mt av L av.length (dB false)):=by
 apply e6;unfold Mt;simp[tnL,f1508]
theorem abK (kk:Int)(ps:List Int)(sy st:Int)(aK fin:List D)(av:List (Ar α))(h3:av.length<=100000)(L:List ai)(h2:L[2]?=some (dA kk ps sy st aK fin (.d (.n 11)))) :
  ∃ px L',Ex E1 (.loop tnL) (Mt (av.map (Ar.d e)) L 0 .u) (.exit 0,Mt (av.map (Ar.d e)) L' av.length (dB false))/\(∀ i,i<2->L'[i]?=L[i]?)/\L'[2]?=some (dA kk ps sy st aK fin px)/\XY px L' ((av.map Ar.turn).map (Ar.d e)):=by
 obtain⟨r,h1,px,L',rfl,h4,h5,h6⟩:=Ex.fold (E:=E1) (b:=tnL) av (fun(aq:List D) a=>aq++[a.turn.d e]) []
  (fun j aq st'=>aq.length=j/\∃ px M,st'=Mt (av.map (Ar.d e)) M j .u/\(∀ i,i<2->M[i]?=L[i]?)/\M[2]?=some (dA kk ps sy st aK fin px)/\XY px M aq)
  (fun aq r=>∃ px M,r=(.exit 0,Mt (av.map (Ar.d e)) M av.length (dB false))/\(∀ i,i<2->M[i]?=L[i]?)/\M[2]?=some (dA kk ps sy st aK fin px)/\XY px M aq)
  (fun j a st' ha ⟨hlen,px,M,hst,q1,q2,q3⟩=>by
   subst hst;have hj:j<av.length:=(aU ha)
   obtain⟨qM,M',r1,r2,r3,r4⟩:=XZ (e:=e) kk ps sy st aK fin av ae M px _ ae q2 q3 j a ha;exact⟨_,r1,by rw[Qb0,hlen];rfl,qM,M',rfl,fun i hi=>(r2 i hi).trans (q1 i hi),r3,r4⟩)
  (fun st' ⟨hlen,px,M,hst,q1,q2,q3⟩=>by
   subst hst;have n3:(av.map (Ar.d e)).length=av.length:=aC;have:=abJ (av.map (Ar.d e)) M;rw[n3]at this;exact⟨_,this,aC,px,M,rfl,q1,q2,q3⟩)
  (st:=Mt (av.map (Ar.d e)) L 0 .u) ⟨rfl,.d (.n 11),L,rfl,fun i _=>rfl,h2,.inl ⟨rfl,rfl⟩⟩
 rw[zW,Qs2]at h6;refine⟨px,L',h1,h4,h5,?_⟩;rw[Q60];exact h6
theorem three {L:List ai}{a b c:ai}(h0:L[0]?=some a)(h1:L[1]?=some b)(h2:L[2]?=some c):∃ T,L=a::b::c::T:=by
 match L,h0,h1,h2 with
 | a'::b'::c'::T,h0,h1,h2 =>
  simp at h0 h1 h2;subst h0 h1 h2;exact⟨T,rfl⟩
 | [],h0,_,_=>simp at h0
 | [_],_,h1,_=>simp at h1
 | [_,_],_,_,h2=>simp at h2
theorem SG (kk:Int)(ps:List Int)(sy st:Int)(aK fin:List D)(av:List (Ar α))(h3:av.length<=100000) :
  Ca E1 1508 [.d (iD kk ps sy st aK fin (av.map (Ar.d e)))] (.d (iD kk ps sy st fin aK ((av.map Ar.turn).map (Ar.d e))),none):=by
 obtain⟨bx,hbx⟩:∃ bx,bx=aX kk ps sy st aK fin (av.map (Ar.d e)):=⟨_,rfl⟩
 obtain⟨px,L,h1,k0,k2,ko⟩:=abK (e:=e) kk ps sy st fin aK av h3 [bx,nX,dA kk ps sy st fin aK (.d (.n 11))] rfl;obtain⟨T,rfl⟩:=three ((k0 0 ae).trans rfl) ((k0 1 ae).trans rfl) k2;have sA:Ex E1 f1508.body.l (st0 (.d (iD kk ps sy st aK fin (av.map (Ar.d e)))::xh) []) (.norm,(st0 (.u::rL 0::rL 1::rM) [bx,nX])):=by
  apply e6;rw[hbx];unfold iD aX nX;simp[f1508]
 have sB := nx sA f1508.body.r.l (st0 (.u::rL 0::rL 1::rL 2::jP) [bx,nX,bx]) (by
  apply e6;rw[hbx];unfold aX nX;simp[f1508])
 have sC := nx sB f1508.body.r.r.l (st0 (.u::rL 0::rL 1::rL 2::jP) [bx,nX,dA kk ps sy st fin aK (.d (.n 11))]) (by
  apply e6;rw[hbx];unfold aX nX dA;simp[f1508,checked,mP,Dz,Ref.abs,kI,FV.target])
 have sD := nx sC f1508.body.r.r.r.l.l (Mt (av.map (Ar.d e)) [bx,nX,dA kk ps sy st fin aK (.d (.n 11))] 0 .u) (by
  apply e6;rw[hbx];unfold aX nX Mt dA;simp[f1508])
 have sE:∃ st',Ex E1 f1508.body.r.r.r.r (Mt (av.map (Ar.d e)) (bx::nX::dA kk ps sy st fin aK px::T) av.length (dB false)) (.ret,st')/\finish f1508 st'=some (.d (iD kk ps sy st fin aK ((av.map Ar.turn).map (Ar.d e))),none):=by
  clear h1 k0 k2 sA sB sC sD hbx;unfold Mt nX dA iD;generalize (av.map Ar.turn).map (Ar.d e)=q3,av.map (Ar.d e)=x3 at*;rcases ko with ⟨rfl,rfl⟩|⟨i,az,h5,rfl,h7⟩
  ·refine⟨_,Ex.of (n:=200) (by simp[f1508];rfl),?_⟩;simp[finish,show f1508.res=[.cell 2 true 7] from rfl,show f1508.ref=false from rfl]
  ·obtain⟨i',rfl⟩:∃ i',i=i'+3:=⟨i-3,ae⟩
   simp only[Xf0]at h7;have il:i'<T.length:=(aU h7)
   have i7:=idx h7;refine⟨_,Ex.of (n:=200) (by simp[f1508,h7,i7,il];rfl),?_⟩;simp[finish,show f1508.res=[.cell 2 true 7] from rfl,show f1508.ref=false from rfl,h7,i7,il,ai.view]
 obtain⟨st',e1,e2⟩:=sE;exact Ca.body (o:=.ret) rfl (aO 1508 f1508:E1.fn _=_) rfl (sA.seq (sB.seq (sC.seq (Ex.seq (sD.seq (Ex.block h1)) e1)))) aC e2
end Fi.S
noncomputable section
namespace Fi.S
open Go Fi
set_option maxHeartbeats 8000000
set_option maxRecDepth 10000
variable {α:Type} {e:α->W} {bD:α->Bool}
def arI (a:Ar α):D:=.a [vI a.f,vI a.t]
theorem afE {n:Nat}{l:List (Ar α)}(h:∀ a ∈ l,(0<=a.f/\a.f<n)/\(0<=a.t/\a.t<n)):l.map arI=SD (mZ l)/\∀ x ∈ mZ l,x.1<n/\x.2<n:=by
 refine⟨?_,fun x hx => ?_⟩
 ·unfold SD mZ;rw[Q60];refine Xb1 fun a ha => ?_
  obtain⟨⟨h1,h2⟩,h3,h4⟩:=h a ha;show arI a=.a [vI (a.f.toNat:Int),vI (a.t.toNat:Int)];rw[Xo0 h1,Xo0 h3];rfl
 ·obtain⟨a,ha,rfl⟩:=Qg1.1 hx;have:=h a ha;simp only;omega
def zIt:D:=.a [vI 0,vI 0]
def rcL:aG:=f3507.body.r.r.l.r.bl.lp
def Ql (B:List ai)(av:List D)(n j:Nat)(t:FV)(L:List ai):St :=
 {vars:=[.u,rL 0,.u,.ls (.loc 1) 0 2 0 n,.u,.u,.u,.d (.s 11 av),dI n,dI j,t],base:=B,loc:=L,aR:=false}
theorem X0 (B:List ai)(av:List (Ar α))(n j:Nat)(a:Ar α)(hl:av.length=n)(hn:n<=1000000)(ha:av[j]?=some a)(L:List ai)(R:List D)(hR:R[j]?=some zIt)(h1:L[1]?=some (.row 0 2 R)) :
  Ex E1 rcL (Ql B (av.map (Ar.d e)) n j .u L) (.norm,Ql B (av.map (Ar.d e)) n (j+1) .u (L.set 1 (.row 0 2 (R.set j (arI a)))++[jk e a])):=by
 have hj:j<av.length:=(aU ha)
 have hj0:(0:Int)<=(j:Int):=ae;have hjn:(j:Int)<(n:Int):=ae;have aS:ak .i64 ((j:Int)+1)=(j:Int)+1:=wrap_i64 ae;have hk1:((j+1:Nat):Int)=(j:Int)+1:=ae;have e1:(av.map (Ar.d e))[j]?=some (a.d e):=by simp[ha]
 have l1:1<L.length:=(aU h1)
 have g1:∀ X,(L++X)[1]?=some (.row 0 2 R):=fun X=>by rw[Qa0 l1];exact h1
 have sA:∀ b b':ai,(L++[b]).set L.length b'=L++[b']:=fun b b'=>by simp
 have hg:∀ b:ai,(L++[b])[L.length]?=some b:=fun b=>by simp
 have s1:∀ X r,(L++X).set 1 r=L.set 1 r++X:=fun X r=>Qr2 _ _ l1
 have hjR:j<R.length:=(aU hR)
 unfold zIt at hR;have iR:=idx hR;obtain⟨s,l2,l3,c,b,u',q,ps',ew,ed⟩:=a.fH e;unfold jk arI;rw[ed]at e1 ⊢;clear ew ed;unfold pQ at*;simp only[D.cells,Qd2,Qc2];generalize av.map (Ar.d e)=es at*;have i0:=idx e1;have j1:=fun X=>idx (g1 X)
 have fJ:j<es.length:=(aU e1)
 refine Ex.of (n:=300) ?_;unfold Ql;rw[hk1];simp[rcL,f3507,hj0,hjn,fJ,hjR,aS,e1,i0,iR,j1,g1,h1,hg,sA,s1,l1]
theorem Lg (acc:List D)(v z:D)(n j:Nat)(h:acc.length=j)(hj:j<n):(acc++List.replicate (n-j) z).set j v=(acc++[v])++List.replicate (n-(j+1)) z:=by
 obtain⟨d,hd⟩:∃ d,n-j=d+1:=⟨n-j-1,ae⟩
 rw[hd,show n-(j+1)=d by omega,Xb0,Qx1 _ _ ae,h,Q51];simp
theorem abM (B:List ai)(av:List (Ar α))(hn:av.length<=1000000)(b:ai)(hb:Dat b) :
  ∃ L,Ex E1 (.loop rcL) (Ql B (av.map (Ar.d e)) av.length 0 .u [b,.row 0 2 (List.replicate av.length zIt)]) (.exit 0,Ql B (av.map (Ar.d e)) av.length av.length (dB false) L)/\L[0]?=some b/\L[1]?=some (.row 0 2 (av.map arI))/\gT L:=by
 obtain⟨r,h1,L,h2,g0,g1,g2⟩:=Ex.fold (E:=E1) (b:=rcL) av (fun(p:List D) x=>p++[arI x]) []
  (fun j acc st=>∃ L,st=Ql B (av.map (Ar.d e)) av.length j .u L/\L[0]?=some b/\L[1]?=some (.row 0 2 (acc++List.replicate (av.length-j) zIt))/\acc.length=j/\gT L)
  (fun acc r=>∃ L,r=(.exit 0,Ql B (av.map (Ar.d e)) av.length av.length (dB false) L)/\L[0]?=some b/\L[1]?=some (.row 0 2 acc)/\gT L)
  (fun j x st hx ⟨L,hst,g0,g1,g2,g3⟩=>by
   subst hst;have hj:j<av.length:=(aU hx)
   have k1:=X0 (e:=e) B av av.length j x rfl hn hx L _ (by rw[Qb1 ae,g2,Q51,Qu2,if_pos ae]) g1;rw[Lg _ _ _ _ _ g2 hj]at k1;refine⟨_,k1,_,rfl,?_,?_,by rw[Qb0,g2];rfl,(g3.put 1 (XQ ..)).add (gT.one (SC _))⟩
   ·have:=(aU g0)
    rw[Qa0 (by simpa using this),Qb2 ae];exact g0
   ·have:=(aU g1)
    rw[Qa0 (by simpa using this),Qd0 this])
  (fun st ⟨L,hst,g0,g1,g2,g3⟩=>by
   subst hst;rw[Q51,List.replicate_zero,Q11]at g1;refine⟨_,Ex.of (n:=60) (r:=(.exit 0,Ql B (av.map (Ar.d e)) av.length av.length (dB false) L)) ?_,aC,L,rfl,g0,g1,g3⟩;unfold Ql;simp[rcL,f3507])
  (st:=Ql B (av.map (Ar.d e)) av.length 0 .u [b,.row 0 2 (List.replicate av.length zIt)]) ⟨_,rfl,rfl,aC,rfl,(gT.one hb).add (gT.one (XQ ..))⟩
 subst h2;rw[zW,Qs2,show av.map (fun x=>arI x)=av.map arI from rfl]at g1;exact⟨L,h1,g0,g1,g2⟩
theorem Es (kk:Int)(ps:List Int)(sy st:Int)(aK:List α)(fin:List D)(av:List (Ar α))(hn:aK.length<=1000000)(h3:av.length<=1000000)(hc:∀ x ∈ aK,Ca E1 1104 [.d (aV kk ps),.d (e x).d] (dB (bD x),none))
  (hin:∀ a ∈ av,(0<=a.f/\a.f<aK.length)/\(0<=a.t/\a.t<aK.length)) (B:List ai) (hB:gq B) :
  ∃ X i N,gT X/\X[i]?=some (.row 0 1 (dW (IA (nY bD aK) (mZ av))))/\∀ m,CL E1 (N+m) 3507 [.d (iD kk ps sy st ((aK.map e).map W.d) fin (av.map (Ar.d e)))] B=some (.ls (.old (B.length+i)) 0 1 0 aK.length,some (B++X)):=by
 obtain⟨bx,hbx⟩:∃ bx,bx=aX kk ps sy st ((aK.map e).map W.d) fin (av.map (Ar.d e)):=⟨_,rfl⟩
 have hbo:Dat bx:=by rw[hbx];exact SC [vI kk,.s 1 (LK .i64 ps),vI sy,vI st,.s 8 _,.s 8 _,.s 11 _]
 obtain⟨L,h1,g0,g1,g2⟩:=abM (e:=e) B av h3 bx hbo;obtain⟨e1,e2⟩:=afE hin;rw[e1]at g1;obtain⟨X,i,N1,x1,x2,x3,t1⟩:=XU (kk:=kk) (ps:=ps) (bD:=bD) aK hn hc (B++L) (hB.add g2.SE);obtain⟨i',rfl⟩:∃ i',i=B.length+i':=⟨i-B.length,by rw[Qb0]at x2;omega⟩
 have hi':L.length<=i':=by rw[Qb0]at x2;omega
 have l1:1<L.length:=(aU g1)
 have y1:(L++X)[1]?=some (.row 0 2 (SD (mZ av))):=by rw[Qa0 l1];exact g1
 have y0:(L++X)[0]?=some bx:=by rw[Qa0 ae];exact g0
 rw[Qm1,Qb1 ae,Xf1]at x3;have hD:gT (L++X):=g2.add x1;have hM:gq (L++X):=hD.SE;obtain⟨r,N2,hs,t2⟩:=SF (B.length+i') (B.length+1) aK.length av.length (B++(L++X)) (hB.add hM) hn h3 ae (mZ av) (by rw[Qb1 ae,Xf1];exact y1) (by simp[mZ]) e2 (nY bD aK) (by simp[nY]) (by rw[Qb1 ae,Xf1];exact x3);rw[Qm1]at t1;have o1:List.map (ai.aA B.length) B=B:=hB _;have o2:List.map (ai.aA B.length) L=L:=g2.SE _;have o3:List.map (ai.aA B.length) (L++X)=L++X:=hM _;have n1:(av.length:Int)*16<=(most:Int):=by unfold most;omega
 have n2:(av.length:Int)<=(most:Int):=by unfold most;omega
 have n0:(0:Int)<=(av.length:Int):=ae;have hel:(av.map (Ar.d e)).length=av.length:=aC;have sA:Ex E1 f3507.body.l {vars:=(.d (iD kk ps sy st ((aK.map e).map W.d) fin (av.map (Ar.d e)))::qj),base:=B,loc:=[],aR:=false}
   (.norm,{vars:=(.u::rL 0::Jh),base:=B,loc:=[bx],aR:=false}):=by
  apply e6;rw[hbx];unfold iD aX;simp[f3507]
 have sB := nx sA f3507.body.r.l {vars:=(.u::rL 0::.u::.ls (.loc 1) 0 2 0 av.length::qi),base:=B,loc:=[bx,.row 0 2 (List.replicate av.length zIt)],aR:=false} (by
  apply e6;clear h1 t1 t2 g0 y0;rw[hbx];unfold aX zIt;have n3:av.length<=most:=ae;have n4:av.length*16<=most:=ae;generalize av.map (Ar.d e)=x3 at*;simp[f3507,hel,n3,n1])
 have sC := nx sB f3507.body.r.r.l.l (Ql B (av.map (Ar.d e)) av.length 0 .u [bx,.row 0 2 (List.replicate av.length zIt)]) (by
  apply e6;clear h1 t1 t2 g0 y0;rw[hbx];unfold aX Ql;generalize List.replicate av.length zIt=x4,av.map (Ar.d e)=x3 at*;simp[f3507,hel])
 have sD:Ex E1 f3507.body.r.r.r.l (Ql B (av.map (Ar.d e)) av.length av.length (dB false) L)
   (.norm,{vars:=[.u,.u,.u,.ls (.loc 1) 0 2 0 av.length,.u,.u,.ls (.loc i') 0 1 0 aK.length,.u,.u,.u,.u],base:=B,loc:=L++X,aR:=decide (0<B.length)}):=by
  refine Ex.of (n:=N1+100) ?_;clear h1 t2 sA sB sC hs y0 x3;rw[hbx]at g0;unfold aX aV at*;unfold Ql;generalize av.map (Ar.d e)=x3,(aK.map e).map W.d=x4 at*;have i0:=idx g0;have l0:0<L.length:=ae;simp[f3507,t1,g0,i0,l0,o1,o2,vD,FV.aA,FV.aT]
 have sE:∃ M',Ex E1 f3507.body.r.r.r.r.l {vars:=[.u,.u,.u,.ls (.loc 1) 0 2 0 av.length,.u,.u,.ls (.loc i') 0 1 0 aK.length,.u,.u,.u,.u],base:=B,loc:=L++X,aR:=decide (0<B.length)}
   (.norm,{vars:=[.u,.u,.u,.u,.u,.u,.ls (.loc i') 0 1 0 aK.length,.u,.u,.u,.u],base:=B,loc:=M',aR:=decide (0<B.length)})/\gT M'/\M'[i']?=some (.row 0 1 (dW (IA (nY bD aK) (mZ av)))):=by
  clear h1 t1 sA sB sC sD g0 g1 y0 o2;have hil:i'<(L++X).length:=(aU x3)
  generalize L++X=M at*;rcases hs with ⟨rfl,hs⟩|⟨L2,hL2,rfl⟩
  ·refine⟨M,Ex.of (n:=N2+100) ?_,hD,by rw[hs];exact x3⟩;simp[f3507,t2,o1,o3,vD,FV.aA,FV.aT,o8]
  ·rw[Qx1 _ _ ae,Xf1,Qm1]at t2;refine⟨M.set i' (.row 0 1 (dW (IA (nY bD aK) (mZ av))))++L2,Ex.of (n:=N2+100) ?_,(hD.put i' (XQ ..)).add hL2,by rw[Qa0 (by simpa using hil),Qd0 hil]⟩;generalize M.set i' (.row 0 1 (dW (IA (nY bD aK) (mZ av))))++L2=M2 at*;simp[f3507,t2,o1,o3,vD,FV.aA,FV.aT,o8]
 obtain⟨M',sE,m1,m2⟩:=sE;have sF:Ex E1 f3507.body.r.r.r.r.r {vars:=[.u,.u,.u,.u,.u,.u,.ls (.loc i') 0 1 0 aK.length,.u,.u,.u,.u],base:=B,loc:=M',aR:=decide (0<B.length)} (.ret,{vars:=(.u::.u::.ls (.loc i') 0 1 0 aK.length::xh),base:=B,loc:=M',aR:=decide (0<B.length)}):=by
  apply e6;simp[f3507]
 obtain⟨N,t⟩:=tY (E:=E1) (g:=3507) (B:=B) (args:=[.d (iD kk ps sy st ((aK.map e).map W.d) fin (av.map (Ar.d e)))]) rfl (aO 3507 f3507:E1.fn _=_) rfl (sA.seq (sB.seq (Ex.seq (sC.seq (Ex.block h1)) (sD.seq (sE.seq sF))))) aC (r:=(.ls (.old (B.length+i')) 0 1 0 aK.length,some (B++M'))) (by
  have o4:List.map (ai.aA B.length) M'=M':=m1.SE _;simp[finish,dX,show f3507.res=[.var 2] from rfl,show f3507.ref=true from rfl,o1,o4,FV.aA])
 exact⟨M',i',N,m1,m2,t⟩
end Fi.S
noncomputable section
namespace Fi.S
open Go Fi
set_option maxHeartbeats 8000000
set_option maxRecDepth 10000
variable {α:Type} {e:α->W} {bD:α->Bool} {kk:Int} {ps:List Int}
def zX (l m:List Bool)(j:Nat):List Bool:=List.zipWith and (l.take j) (m.take j)++l.drop j
theorem X3 {l m:List Bool}(h:l.length=m.length)(j:Nat):(zX l m j).length=l.length:=by
 unfold zX;rw[Qb0,Xn2,Qk0,Qk0,Xe1];omega
theorem abN {l m:List Bool}(h:l.length=m.length){j:Nat}{b:Bool}(hb:l[j]?=some b):(zX l m j)[j]?=some b:=by
 have hj:=(aU hb)
 unfold zX;rw[Qb1 (by rw[Xn2,Qk0,Qk0];omega),Qy0,Xn2,Qk0,Qk0,show j+(j-min (min j l.length) (min j m.length))=j by omega];exact hb
theorem SH {l m:List Bool}(h:l.length=m.length){j:Nat}{b c:Bool}(hb:l[j]?=some b)(hc:m[j]?=some c):(zX l m j).set j (b&&c)=zX l m (j+1):=by
 obtain⟨hj,hb'⟩:=Qq1.1 hb;obtain⟨hj2,hc'⟩:=Qq1.1 hc;have hz:(List.zipWith and (l.take j) (m.take j)).length=j:=by rw[Xn2,Qk0,Qk0];omega
 unfold zX;rw[Qx1 _ _ ae,hz,Q51,Qk1 hj,List.set_cons_zero,Qi1 hj,Qi1 hj2,List.zipWith_append (by rw[Qk0,Qk0];omega),hb',hc',Qm1];rfl
theorem afF (l m:List Bool):zX l m 0=l:=by simp[zX]
theorem X4 {l m:List Bool}(h:l.length=m.length):zX l m l.length=List.zipWith and l m:=by
 unfold zX;rw[Qv2,Q11,Qj1,Qe0 ae]
def usL:aG:=f1506.body.r.r.r.r.l.r.bl.lp
def SI (io ib n j:Nat)(t:FV)(L:List ai):St :=
 (st0 [.u,.u,.u,.u,.u,.u,.ls (.loc io) 0 1 0 n,.ls (.loc ib) 0 1 0 n,.u,.u,dI n,dI j,t] L)
theorem X5 (io ib n j:Nat)(hn:n<=1000000)(hj:j<n)(hne:io≠ib)(L:List ai)(R K:List Bool)(hR:R.length=n)(h1:L[io]?=some (.row 0 1 (dW R)))(h2:L[ib]?=some (.row 0 1 (dW K)))(b c:Bool)(hb:R[j]?=some b)(hc:K[j]?=some c) :
  Ex E1 usL (SI io ib n j .u L) (.norm,SI io ib n (j+1) .u (L.set io (.row 0 1 (dW (R.set j (b&&c)))))):=by
 have hj0:(0:Int)<=(j:Int):=ae;have hjn:(j:Int)<(n:Int):=ae;have aS:ak .i64 ((j:Int)+1)=(j:Int)+1:=wrap_i64 ae;have hk1:((j+1:Nat):Int)=(j:Int)+1:=ae;have e1:=yG hb;have e2:=yG hc;have l1:io<L.length:=(aU h1)
 have l2:ib<L.length:=(aU h2)
 have i1:=idx h1;have i2:=idx h2;have i3:=idx e1;have i4:=idx e2;have hj1:j<(dW R).length:=(aU e1)
 have hj2:j<(dW K).length:=(aU e2)
 refine Ex.of (n:=200) ?_;unfold SI;rw[hk1,<-XR];cases b<;>cases c<;>simp[usL,f1506,hj0,hjn,aS,e1,e2,l1,l2,i1,i2,i3,i4,h1,h2,hj1,hj2]
theorem abO (io ib n:Nat)(hn:n<=1000000)(hne:io≠ib)(L:List ai)(O K:List Bool)(hO:O.length=n)(hK:K.length=n)(h1:L[io]?=some (.row 0 1 (dW O)))(h2:L[ib]?=some (.row 0 1 (dW K))) :
  ∃ L',Ex E1 (.loop usL) (SI io ib n 0 .u L) (.exit 0,SI io ib n n (dB false) L')/\L'[io]?=some (.row 0 1 (dW (List.zipWith and O K))):=by
 obtain⟨r,h3,L',h4,h5⟩:=Ex.inv (E:=E1) (b:=usL) (fun a:Nat × List ai=>SI io ib n a.1 .u a.2) (fun a=>n-a.1)
  (fun a=>a.1<=n/\a.2[io]?=some (.row 0 1 (dW (zX O K a.1)))/\a.2[ib]?=some (.row 0 1 (dW K)))
  (fun r=>∃ L',r=(.exit 0,SI io ib n n (dB false) L')/\L'[io]?=some (.row 0 1 (dW (List.zipWith and O K)))) (fun a ⟨g0,g1,g2⟩=>by
   obtain⟨j,L⟩:=a;simp only at g0 g1 g2 ⊢;rcases Qg0 j n with h|h
   ·have b1:O[j]?=some (O[j]'(by omega)):=Qa1 ae;have b2:K[j]?=some (K[j]'(by omega)):=Qa1 ae;have k:=X5 io ib n j hn h hne L (zX O K j) K (by rw[X3 ae];exact hO) g1 g2 _ _ (abN ae b1) b2;rw[SH ae b1 b2]at k;refine .inl ⟨(j+1,_),k,by simp only;omega,by simp only;omega,?_,?_⟩
    ·exact Qd0 (aU g1)
    ·simp only;rw[Qb2 hne];exact g2
   ·obtain rfl:j=n:=ae;refine .inr ⟨_,Ex.of (n:=60) (r:=(.exit 0,SI io ib j j (dB false) L)) ?_,aC,L,rfl,?_⟩
    ·unfold SI;simp[usL,f1506]
    ·rw[<-hO,X4 ae]at g1;exact g1) (0,L) ⟨Qz2 _,by rw[afF];exact h1,h2⟩
 subst h4;exact⟨L',h3,h5⟩
theorem SK (sy st:Int)(aK fin:List α)(av:List (Ar α))(hn:aK.length<=1000000)(hf:fin.length=aK.length)(h3:av.length<=100000)(hc:∀ x ∈ aK,Ca E1 1104 [.d (aV kk ps),.d (e x).d] (dB (bD x),none))(hd:∀ x ∈ fin,Ca E1 1104 [.d (aV kk ps),.d (e x).d] (dB (bD x),none))
  (hin:∀ a ∈ av,(0<=a.f/\a.f<aK.length)/\(0<=a.t/\a.t<aK.length)) (A:D) (hA:∃ a b c d f g h,A=iD a b c d f g h) (hN:Ca E1 1024 [.d A] (.d (.t [tV kk ps sy st (aK.map e) (fin.map e) e av,vI 0]),none)) :
  Ca E1 1506 [.d A] (.d (.t [.s 1 (dW (vz bD aK fin av)),vI 0]),none):=by
 obtain⟨N1,t1⟩:=hN.get;obtain⟨N2,t2⟩:=(SG (e:=e) kk ps sy st ((aK.map e).map W.d) ((fin.map e).map W.d) av h3).get;obtain⟨nb,hnb⟩:∃ nb,nb=aX kk ps sy st ((aK.map e).map W.d) ((fin.map e).map W.d) (av.map (Ar.d e)):=⟨_,rfl⟩
 obtain⟨qa,qb,qc,qd,qf,qg,qh,rfl⟩:=hA;obtain⟨ab,hab⟩:∃ ab,ab=aX qa qb qc qd qf qg qh:=⟨_,rfl⟩
 obtain⟨X,i,N3,x1,x2,t3⟩:=Es (e:=e) (bD:=bD) kk ps sy st aK ((fin.map e).map W.d) av hn ae hc hin [] (fun _=>rfl);obtain⟨Y,i',N4,y1,y2,t4⟩:=Es (e:=e) (bD:=bD) kk ps sy st fin ((aK.map e).map W.d) (av.map Ar.turn) ae (by simpa using(by omega:av.length<=1000000)) hd (fun a ha=>by
  obtain⟨b,hb,rfl⟩:=Qg1.1 ha;obtain⟨h1,h2⟩:=hin b hb;rw[hf];exact⟨h2,h1⟩) [] (fun _=>rfl)
 rw[Qs1,Qy1,Qs2]at t3 t4;rw[XX]at y2;have hil:i<X.length:=(aU x2)
 have il2:i'<Y.length:=(aU y2)
 have lo:(IA (nY bD aK) (mZ av)).length=aK.length:=by rw[yF];simp[nY]
 have lb:(IA (nY bD fin) (T9 av)).length=aK.length:=by rw[yF];simp[nY,hf]
 obtain⟨L',h1,h2⟩:=abO (2+i) (X.length+1+1+i') aK.length hn ae ([ab,nb]++(X++Y)) _ _ lo lb (by rw[Qb1 aC,show 2+i-[ab,nb].length=i by simp,Qa0 hil];exact x2) (by rw[Qb1 (by simp;omega),show X.length+1+1+i'-[ab,nb].length=X.length+i' by simp;omega,Qb1 ae,Xf1];exact y2);have hu:(dW (vz bD aK fin av)).length=aK.length:=by rw[qW,qV _ hf.symm]
 change L'[2+i]?=some (.row 0 1 (dW (vz bD aK fin av))) at h2
 generalize vz bD aK fin av=us at*;rw[hf]at t4;have oX:∀ m,List.map (ai.shift m) X=X:=x1.shift;have oY:∀ m,List.map (ai.shift m) Y=Y:=y1.shift;have sA:Ex E1 f1506.body.l (st0 (.d (iD qa qb qc qd qf qg qh)::BZ) []) (.norm,(st0 (.u::rL 0::Mw) [ab])):=by
  apply e6;rw[hab];unfold iD aX;simp[f1506]
 have sB := nx sA f1506.body.r.l (st0 (.u::.u::.u::.u::rL 1::dI 0::qi) [ab,nb]) (by
  refine Ex.of (n:=N1+60) ?_;clear h1 h2 t2 t3 t4 sA x1 y1 x2 y2 oX oY;rw[hab,hnb];unfold tV iD aX at*;generalize LK .i64 ps=l9,av.map (Ar.d e)=x3,(aK.map e).map W.d=x1,(fin.map e).map W.d=x2 at*;simp[f1506,t1])
 have sC := nx sB f1506.body.r.r.l (st0 [.u,.u,.u,.u,rL 1,dI 0,.u,.u,.u,dB false,.u,.u,.u] [ab,nb]) (by
  apply e6;simp[f1506])
 have sD := nx sC f1506.body.r.r.r.l (st0 (.u::.u::.u::.u::.u::.u::.ls (.loc (2+i)) 0 1 0 aK.length::.ls (.loc (X.length+1+1+i')) 0 1 0 aK.length::jP) ([ab,nb]++(X++Y))) (by
  refine Ex.of (n:=N2+N3+N4+100) ?_;replace t2:=fun k=>dL (t2 0) (show N2+0<=N2+N3+N4+k by omega)
  replace t3:=fun k=>dL (t3 0) (show N3+0<=N2+N3+N4+k by omega)
  replace t4:=fun k=>dL (t4 0) (show N4+0<=N2+N3+N4+k by omega)
  clear h1 h2 t1 sA sB sC x1 y1 x2 y2 hN hc hd;simp only[hnb]at*;unfold iD aX at*;generalize (av.map Ar.turn).map (Ar.d e)=x4,av.map (Ar.d e)=x3,(aK.map e).map W.d=x1,(fin.map e).map W.d=x2 at*;simp[f1506,t2,t3,t4,oX,oY,FV.shift])
 have sE := nx sD f1506.body.r.r.r.r.l.l (SI (2+i) (X.length+1+1+i') aK.length 0 .u ([ab,nb]++(X++Y))) (by
  apply e6;unfold SI;rw[show((0:Nat):Int)=0 from rfl];simp[f1506])
 have sF:∃ st',Ex E1 f1506.body.r.r.r.r.r (SI (2+i) (X.length+1+1+i') aK.length aK.length (dB false) L') (.ret,st')/\finish f1506 st'=some (.d (.t [.s 1 (dW us),vI 0]),none):=by
  clear h1 t1 t2 t3 t4 sA sB sC sD sE x1 y1 x2 y2;have il:2+i<L'.length:=(aU h2)
  have i2:=idx h2;have tk:(dW us).take aK.length=dW us:=by rw[<-hu,Qj1]
  generalize 2+i=k,dW us=bs at*;refine⟨_,Ex.of (n:=100) (by unfold SI;simp[f1506];rfl),?_⟩;simp[finish,show f1506.res=[.var 2,.var 3] from rfl,show f1506.ref=false from rfl,h2,i2,il,hu,tk,ai.view,o8]
 obtain⟨st',e1,e2⟩:=sF;exact Ca.body (o:=.ret) rfl (aO 1506 f1506:E1.fn _=_) rfl (sA.seq (sB.seq (sC.seq (sD.seq (Ex.seq (sE.seq (Ex.block h1)) e1))))) aC e2
end Fi.S
