import Derived.Test.YtkekcmgkpdkieaaGreatDoorDB
set_option linter.unusedVariables false
set_option linter.unusedSimpArgs false
noncomputable section
namespace Fi.S
open Go Fi
inductive lQ (m:List Bool)(st:List (Nat × Nat)):Nat->Prop
 | base {s:Nat} (h:m[s]?=some true):lQ m st s
 | step {p q:Nat} (h:(p,q) ∈ st) (g:lQ m st p):lQ m st q
theorem lQ.mono {m m':List Bool}{st st':List (Nat × Nat)}(h1:∀ s:Nat,m[s]?=some true->m'[s]?=some true)(h2:∀ x ∈ st,x ∈ st'){s:Nat}(h:lQ m st s):lQ m' st' s:=by
 induction h with
 | base h=>exact .base (h1 _ h)
 | step h _ ih=>exact .step (h2 _ h) ih
def sp1 (m:List Bool)(e:Nat × Nat):List Bool:=if m[e.1]?=some true then m.set e.2 true else m
def qy (m:List Bool)(e:Nat × Nat):Bool:=m.getD e.1 false && !m.getD e.2 false
def sp2 (x:List Bool × Bool)(e:Nat × Nat):List Bool × Bool:=(sp1 x.1 e,x.2||qy x.1 e)
def cnt (m:List Bool):Nat:=(m.filter id).length
theorem nk {m:List Bool}{i:Nat}:m.getD i false=true↔m[i]?=some true:=by
 rw[Qq2];cases h:m[i]? with
 | none=>simp
 | some b=>simp
theorem aaJ (m:List Bool)(e:Nat × Nat):(sp1 m e).length=m.length:=by unfold sp1;split<;>simp
theorem abQ (m:List Bool):cnt m<=m.length:=Xg1 ..
theorem aaK:∀ {m:List Bool} {i:Nat},m[i]?=some false->cnt (m.set i true)=cnt m+1
 | b::m,0,h=>by
  simp at h;subst h;simp[cnt]
 | b::m,i+1,h=>by
  have ih:=aaK (m:=m) (i:=i) (by simpa using h);unfold cnt at*;rw[X41,List.filter_cons,List.filter_cons];split
  ·rw[Qf0,Qf0,ih]
  ·exact ih
theorem CY:∀ {m:List Bool} {i:Nat},m[i]?=some true->m.set i true=m
 | b::m,0,h=>by simp at h;subst h;rfl
 | b::m,i+1,h=>by rw[X41,CY (by simpa using h)]
theorem abR {m:List Bool}{i s:Nat}(h:(m.set i true)[s]?=some true):s=i\/m[s]?=some true:=by
 by_cases hs:i=s
 ·exact .inl hs.symm
 ·rw[Qc1 hs]at h;exact .inr h
structure Sp (m0:List Bool)(st:List (Nat × Nat))(m:List Bool):Prop where
 len:m.length=m0.length
 le:∀ s:Nat,m0[s]?=some true->m[s]?=some true
 ok:∀ s:Nat,m[s]?=some true->lQ m0 st s
theorem Sp.refl (m:List Bool)(st:List (Nat × Nat)):Sp m st m:=⟨rfl,fun _ h=>h,fun _ h=>.base h⟩
theorem Sp.one {m0 m:List Bool}{st:List (Nat × Nat)}(h:Sp m0 st m){e:Nat × Nat}(he:e ∈ st):Sp m0 st (sp1 m e):=by
 refine⟨by rw[aaJ,h.len],fun s hs => ?_,fun s hs => ?_⟩
 ·have:=h.le s hs;unfold sp1;split
  ·by_cases h2:e.2=s
   ·have hl:e.2<m.length:=by rw[h2];exact(bD this)
    rw[<-h2,Qe0 hl]
   ·rw[Qc1 h2];exact this
  ·exact this
 ·unfold sp1 at hs;split at hs
  ·rename_i h1;rcases abR hs with rfl|g
   ·exact .step he (h.ok _ h1)
   ·exact h.ok _ g
  ·exact h.ok _ hs
theorem aaL {m:List Bool}{e:Nat × Nat}(h2:e.2<m.length):if qy m e=true then cnt (sp1 m e)=cnt m+1 else sp1 m e=m:=by
 have hg:m[e.2]?=some m[e.2]:=Qa1 h2;unfold qy sp1
 by_cases h1:m[e.1]?=some true
 ·rw[nk.2 h1,if_pos h1,Qu2];cases hb:m[e.2] with
  | true =>
   rw[hb]at hg;rw[nk.2 hg,if_neg (by simp)];exact CY hg
  | false =>
   rw[hb]at hg;have:m.getD e.2 false=false:=by rw[Qq2,hg];rfl
   rw[this,if_pos (by simp)];exact aaK hg
 ·have:m.getD e.1 false=false:=by
   cases hc:m.getD e.1 false with
   | false=>rfl
   | true=>exact absurd (nk.1 hc) h1
  rw[this,if_neg h1,if_neg (by simp)]
theorem sP {m0:List Bool}{st:List (Nat × Nat)}(hr:∀ e ∈ st,e.2<m0.length):∀ (l:List (Nat × Nat)) (m:List Bool) (c:Bool),(∀ e ∈ l,e ∈ st)->Sp m0 st m ->
  Sp m0 st (l.foldl sp2 (m,c)).1/\cnt m<=cnt (l.foldl sp2 (m,c)).1/\((l.foldl sp2 (m,c)).2=true->c=true\/cnt m<cnt (l.foldl sp2 (m,c)).1)/\((l.foldl sp2 (m,c)).2=false->c=false/\(l.foldl sp2 (m,c)).1=m/\∀ e ∈ l,qy m e=false)
 | [],m,c,_,h=>⟨h,Qd2 _,fun h=>.inl h,fun h=>⟨h,rfl,by simp⟩⟩
 | e::l,m,c,hl,h=>by
  have he:=hl e (by simp);have hc:=aaL (m:=m) (e:=e) (by rw[h.len];exact hr e he);obtain⟨h1,h2,h3,h4⟩:=sP hr l (sp1 m e) (c||qy m e) (fun e he=>hl e (by simp[he])) (h.one he);rw[Qq1]
  change Sp m0 st (l.foldl sp2 (sp1 m e,c||qy m e)).1/\cnt m<=cnt (l.foldl sp2 (sp1 m e,c||qy m e)).1/\((l.foldl sp2 (sp1 m e,c||qy m e)).2=true->c=true\/cnt m<cnt (l.foldl sp2 (sp1 m e,c||qy m e)).1)/\((l.foldl sp2 (sp1 m e,c||qy m e)).2=false->c=false/\(l.foldl sp2 (sp1 m e,c||qy m e)).1=m/\∀ e' ∈ e::l,qy m e'=false)
  generalize l.foldl sp2 (sp1 m e,c||qy m e)=r at*;cases hg:qy m e with
  | true =>
   rw[hg,if_pos rfl]at hc;refine⟨h1,by omega,fun _=>.inr (by omega),fun hr => ?_⟩;have:=(h4 hr).1;rw[hg,Bool.or_true]at this;cases this
  | false =>
   rw[hg,if_neg (by simp)]at hc;rw[hc,hg,Bool.or_false]at h3 h4;rw[hc]at h2;refine⟨h1,h2,h3,fun hr => ?_⟩;obtain⟨k1,k2,k3⟩:=h4 hr;refine⟨k1,k2,fun e' he' => ?_⟩;rcases Qi0.1 he' with rfl|h
   ·exact hg
   ·exact k3 e' h
noncomputable def sN (m:List Bool) (st:List (Nat × Nat)):List Bool:=(List.range m.length).map fun s=>@decide (lQ m st s) (Classical.propDecidable _)
theorem pV (m:List Bool)(st:List (Nat × Nat)):(sN m st).length=m.length:=by simp[sN]
theorem tu {m:List Bool}{st:List (Nat × Nat)}{s:Nat}:(sN m st)[s]?=some true↔s<m.length/\lQ m st s:=by
 unfold sN;rw[Qb2]
 by_cases h:s<m.length
 ·rw[Xp2 h];simp[h]
 ·rw[Qp2 (by simpa using h)];simp[h]
theorem abW {l m:List Bool}(hl:l.length=m.length)(h:∀ s:Nat,l[s]?=some true↔m[s]?=some true):l=m:=by
 refine Xv0 fun s => ?_
 by_cases hs:s<l.length
 ·have g1:l[s]?=some l[s]:=Qa1 hs;have g2:m[s]?=some (m[s]'(by omega)):=Qa1 (by omega);have:=h s;rw[g1,g2]at this ⊢;cases h1:l[s]<;>cases h2:m[s]'(by omega)<;>simp_all
 ·rw[Qp2 (by omega),Qp2 (by omega)]
theorem Sp.done {m0 m:List Bool}{st:List (Nat × Nat)}(h:Sp m0 st m)(hc:∀ e ∈ st,qy m e=false):m=sN m0 st:=by
 refine abW (by rw[h.len,pV]) fun s => ?_
 rw[tu];constructor
 ·intro g;exact⟨by rw[<-h.len];exact(bD g),h.ok s g⟩
 ·rintro⟨-,g⟩
  induction g with
  | base g=>exact h.le _ g
  | @step p q he _ ih =>
   have:=hc _ he;unfold qy at this;rw[nk.2 ih,Qu2]at this;exact nk.1 (by simpa using this)
def pass (st:List (Nat × Nat))(m:List Bool):List Bool:=st.foldl sp1 m
def passes (st:List (Nat × Nat)):Nat->List Bool->List Bool
 | 0,m=>m
 | k+1,m=>pass st (passes st k m)
end Fi.S
noncomputable section
namespace Fi.S
open Go Fi
set_option maxHeartbeats 8000000
section
variable {α:Type}
def DC (fo:α->Bool)(l:List α):List Bool:=l.map fun x => !fo x
def dM (l:List (Ar α)):List (Nat × Nat):=l.map fun a=>(a.f.toNat,a.t.toNat)
def VV (l:List (Ar α)):List (Nat × Nat):=l.map fun a=>(a.t.toNat,a.f.toNat)
def eH (fo:α->Bool)(aM fin:List α)(l:List (Ar α)):List Bool:=List.zipWith and (sN (DC fo aM) (dM l)) (sN (DC fo fin) (VV l))
theorem abZ {l m:List Bool}{s:Nat}:(List.zipWith and l m)[s]?=some true↔l[s]?=some true/\m[s]?=some true:=by
 rw[List.getElem?_zipWith];cases l[s]?<;>cases m[s]?<;>simp
theorem DD {m:List Bool}{st st':List (Nat × Nat)}(h:∀ x ∈ st,x ∈ st'){s:Nat}(hs:(sN m st)[s]?=some true):(sN m st')[s]?=some true:=by
 obtain⟨h1,h2⟩:=tu.1 hs;exact tu.2 ⟨h1,h2.mono (fun _ h=>h) h⟩
theorem ab2 {fo:α->Bool}{aM fin:List α}{l m:List (Ar α)}(h:∀ c ∈ l,∃ c' ∈ m,c'.f=c.f/\c'.t=c.t){s:Nat}(hs:(eH fo aM fin l)[s]?=some true):(eH fo aM fin m)[s]?=some true:=by
 obtain⟨h1,h2⟩:=abZ.1 hs;refine abZ.2 ⟨DD (fun x hx => ?_) h1,DD (fun x hx => ?_) h2⟩
 ·obtain⟨c,hc,rfl⟩:=Qh2.1 hx;obtain⟨c',h3,h4,h5⟩:=h c hc;exact Qh2.2 ⟨c',h3,by rw[h4,h5]⟩
 ·obtain⟨c,hc,rfl⟩:=Qh2.1 hx;obtain⟨c',h3,h4,h5⟩:=h c hc;exact Qh2.2 ⟨c',h3,by rw[h4,h5]⟩
theorem vB (fo:α->Bool){aM fin:List α}(h:aM.length=fin.length)(l:List (Ar α)):(eH fo aM fin l).length=aM.length:=by
 unfold eH;rw[Xj0,pV,pV];simp[DC];omega
variable {P:α->Prop} {pl tm:α->α->α} {z o:α}
theorem aaz (A:Ha P pl tm z o){fo:α->Bool}(hz:∀ x,P x->fo x=true->x=z)(hz1:fo z=true)(hi:∀ x,P x->pl x x=x){l:List (Ar α)}{x:Ar α}(hl:PA P l)(hx:P x.x){c:Ar α}(hc:c ∈ fD pl fo l) :
  ∃ c' ∈ fD pl fo (l++[x]),c'.f=c.f/\c'.t=c.t:=by
 obtain⟨h1,h2⟩:=Xg2.1 hc;obtain⟨h3,h4⟩:=(r9 A hl c).1 h1;have pc:P c.x:=uo A hl c h1;have ph:P (hAt z c x):=(A9 A c).p x hx;have hl':PA P (l++[x]):=fun a ha=>by
  rcases Qs1.1 ha with h|h
  ·exact hl a h
  ·rw[Qw2.1 h];exact hx
 have hs:sm pl z ((l++[x]).map (hAt z c))=pl c.x (hAt z c x):=by
  unfold sm;rw[Qm1,Xn2,h4];rfl
 refine⟨{c with x:=sm pl z ((l++[x]).map (hAt z c))},Xg2.2 ⟨(r9 A hl' _).2 ⟨?_,rfl⟩,?_⟩,rfl,rfl⟩
 ·obtain⟨a,ha,he⟩:=h3;exact⟨a,by simp[ha],he⟩
 ·show(!fo (sm pl z ((l++[x]).map (hAt z c))))=true;rw[hs];cases hq:fo (pl c.x (hAt z c x)) with
  | false=>rfl
  | true =>
   have e1:=hz _ (A.pp pc ph) hq;have:c.x=z:=by
    have e2:pl c.x (pl c.x (hAt z c x))=pl c.x (hAt z c x):=by rw[<-A.assoc pc pc ph,hi _ pc]
    rw[e1,A.zero pc]at e2;exact e2
   rw[this,hz1]at h2;cases h2
end
theorem aaC {k:Int}(h:k=2\/k=3\/k=4){S M:Nat}{x:Sv}(hx:x.of k S M):dB k x x=x:=by
 rcases h with rfl|rfl|rfl
 ·obtain⟨i,n,rfl,_⟩:=wY hx;rw[Y7,ite_self]
 ·obtain⟨q,rfl,_⟩:=wZ hx;rw[su,ite_self]
 ·obtain⟨u,rfl,hu⟩:=w9 hx;rw[J8,Cw,BitVec.or_self,aaM hu]
theorem aaD {k:Int}(h:k=2\/k=3\/k=4){x:List Sv}(hx:vM (dz k []) x):bL (dz k []) x x=x:=by
 have e:dz k []=[k]:=by unfold dz;rw[if_neg (by omega)]
 rw[e]at hx ⊢;obtain⟨S,M,_,_,h1,h2⟩:=hx;cases x with
 | nil=>cases h1
 | cons y r =>
  cases r with
  | cons _ _=>simp at h1
  | nil =>
   have:=aaC h (h2 0 k y rfl rfl);show [dB k y y]=_;rw[this]
end Fi.S
noncomputable section
namespace Fi.S
open Go Fi
set_option maxHeartbeats 8000000
set_option maxRecDepth 10000
theorem p8 {E:Env}{g:Nat}{F:ai}{args:List FV}{B:List ae}{o:Out}{st1:St}{r:FV × Option (List ae)}(hp:E.ja g=none)(hf:E.fn g=some F)(hl:args.length=F.np)
  (h:Ex E F.body {vars:=args++List.replicate (F.nv-F.np) .u,base:=B,loc:=[],aP:=false} (o,st1)) (ho:∀ id,o≠.exit id) (hr:finish F st1=some r):∃ N,∀ m,CL E (N+m) g args B=some r:=by
 obtain⟨n0,h⟩:=h;refine⟨n0,fun m => ?_⟩;rw[jH,GI hp hf hl,h _ (by omega)];cases o with
 | exit id=>exact absurd rfl (ho id)
 | norm=>exact hr
 | ret=>exact hr
def Dat (o:ae):Prop:=(∃ cs:List D,o=.box (cs.map .d))\/∃ v s es,o=.row v s es
theorem ab' (cs:List D):Dat (.box (cs.map .d)):=.inl ⟨cs,rfl⟩
theorem acb (v s:Nat)(es:List D):Dat (.row v s es):=.inr ⟨v,s,es,rfl⟩
def cu (X:List ae):Prop:=∀ o ∈ X,Dat o
theorem cu.nil:cu []:=fun o h=>by cases h
theorem cu.one {o:ae}(h:Dat o):cu [o]:=fun x hx=>by rw[Qw2.1 hx];exact h
theorem cu.add {X Y:List ae}(h:cu X)(k:cu Y):cu (X++Y):=fun o ho=>(Qs1.1 ho).elim (h o) (k o)
theorem cu.put {X:List ae}(h:cu X)(i:Nat){o:ae}(k:Dat o):cu (X.set i o):=fun x hx=>by
 rcases Xe1 hx with g|rfl
 ·exact h x g
 ·exact k
theorem cu.aaZ {X:List ae}(h:cu X):iI X:=fun n=>by
 refine(Xf1 fun o ho => ?_).trans (List.map_id X);rcases h o ho with ⟨cs,rfl⟩|⟨v,s,es,rfl⟩
 ·exact mf cs n
 ·rfl
theorem sV (m:Nat):∀ cs:List D,FV.jk m (cs.map .d)=cs.map .d
 | []=>rfl
 | c::cs=>by
  show FV.shift m (.d c)::FV.jk m (cs.map .d)=_;rw[sV m cs];rfl
theorem cu.shift {X:List ae}(h:cu X)(m:Nat):X.map (ae.shift m)=X:=by
 refine(Xf1 fun o ho => ?_).trans (List.map_id X);rcases h o ho with ⟨cs,rfl⟩|⟨v,s,es,rfl⟩
 ·show ae.box (FV.jk m (cs.map .d))=_;rw[sV];rfl
 ·rfl
theorem qo {β γ:Type}(g:β->γ):∀ (l:List β) (p:List γ),l.foldl (fun aq a=>aq++[g a]) p=p++l.map g
 | [],p=>by simp
 | x::l,p=>by rw[Qq1,qo g l,Qe1,Qm0];rfl
def BDt (l:List Bool):List D:=l.map fun b=>.v (.bool b)
theorem iq (l:List Bool):(BDt l).length=l.length:=by simp[BDt]
theorem tq {l:List Bool}{i:Nat}{b:Bool}(h:l[i]?=some b):(BDt l)[i]?=some (.v (.bool b)):=by simp[BDt,h]
theorem acd (l:List Bool)(i:Nat)(b:Bool):(BDt l).set i (.v (.bool b))=BDt (l.set i b):=by simp[BDt,Q80]
variable {α:Type} {e:α->W} {fo:α->Bool} {kk:Int} {ps:List Int}
def VW:aG:=f1509.body.r.r.l.r.bl.lp
def mkS (B:List ae)(ws:List D)(n j:Nat)(t:FV)(L:List ae):St :=
 {vars:=[.u,.u,.r (.loc 0) 0,.u,.ls (.loc 1) 0 1 0 n,.u,.u,.d (.s 8 ws),.d (.v (.int .i64 n)),.d (.v (.int .i64 j)),t],base:=B,loc:=L,aP:=false}
theorem ace (B:List ae)(ws:List W)(n j:Nat)(x:W)(b:Bool)(hl:ws.length=n)(hn:n<=1000000)(hx:ws[j]?=some x)(L:List ae)(h0:L[0]?=some (aU kk ps))(R:List D)(b0:Bool)(hR:R[j]?=some (.v (.bool b0)))(h1:L[1]?=some (.row 0 1 R))
  (hc:Ca E1 1104 [.d (bA kk ps),.d x.d] (.d (.v (.bool b)),none)) :
  Ex E1 VW (mkS B (ws.map W.d) n j .u L) (.norm,mkS B (ws.map W.d) n (j+1) .u (L.set 1 (.row 0 1 (R.set j (.v (.bool !b))))++[.box (x.d.cells.map .d)])):=by
 obtain⟨N,t⟩:=hc.get;have hj:j<ws.length:=(bD hx)
 have hj0:(0:Int)<=(j:Int):=by omega
 have hjn:(j:Int)<(n:Int):=by omega
 have bz:ah .i64 ((j:Int)+1)=(j:Int)+1:=wrap_i64 (by omega);have hk1:((j+1:Nat):Int)=(j:Int)+1:=by omega
 have e1:(ws.map W.d)[j]?=some x.d:=by simp[hx]
 have hel:(ws.map W.d).length=n:=by simpa using hl
 have l0:0<L.length:=(bD h0)
 have l1:1<L.length:=(bD h1)
 have g0:∀ X,(L++X)[0]?=some (aU kk ps):=fun X=>by rw[Qa0 l0];exact h0
 have g1:∀ X,(L++X)[1]?=some (.row 0 1 R):=fun X=>by rw[Qa0 l1];exact h1
 have sA:∀ b b':ae,(L++[b]).set L.length b'=L++[b']:=fun b b'=>by simp
 have s1:∀ X r,(L++X).set 1 r=L.set 1 r++X:=fun X r=>Qy0 _ _ l1
 have ZK:j<R.length:=(bD hR)
 have iR:=idx hR;obtain⟨s,l2,l3,c,b',u,p,q,ex⟩:=x.aN;simp only[ex]at t e1 ⊢;clear ex hx hc;unfold aU bA wD at*;generalize LK .i64 ps=l9,ws.map W.d=es at*;have i0:=idx e1;have j0:=fun X=>idx (g0 X)
 have j1:=fun X=>idx (g1 X)
 have qQ:j<es.length:=(bD e1)
 refine Ex.of (n:=N+300) ?_;unfold mkS;rw[hk1];simp -implicitDefEqProofs[VW,f1509,t,hj0,hjn,qQ,ZK,bz,e1,i0,iR,j0,j1,g0,g1,h0,h1,sA,s1,l0,l1]
theorem ad_ (acc:List Bool)(b:Bool)(n j:Nat)(h:acc.length=j)(hj:j<n):(BDt acc++List.replicate (n-j) (D.v (.bool false))).set j (.v (.bool b))=BDt (acc++[b])++List.replicate (n-(j+1)) (D.v (.bool false)):=by
 obtain⟨d,hd⟩:∃ d,n-j=d+1:=⟨n-j-1,by omega⟩
 rw[hd,show n-(j+1)=d by omega,Xc0,Qw0 _ _ (by rw[iq];omega),iq,h,Q30];simp[BDt]
theorem acJ (l:List α)(hn:l.length<=1000000)(hc:∀ x ∈ l,Ca E1 1104 [.d (bA kk ps),.d (e x).d] (.d (.v (.bool (fo x))),none))(B:List ae)(hB:iI B) :
  ∃ X i N,cu X/\B.length<=i/\(B++X)[i]?=some (.row 0 1 (BDt (DC fo l)))/\∀ m,CL E1 (N+m) 1509 [.d (bA kk ps),.d (.s 8 ((l.map e).map W.d))] B=some (.ls (.old i) 0 1 0 l.length,some (B++X)):=by
 have YY:∀ (l:List α) (p:List Bool),l.foldl (fun p x=>p++[!fo x]) p=p++DC fo l:=by
  intro l
  induction l with
  | nil=>intro p;simp[DC]
  | cons a l ih=>intro p;rw[Qq1,ih];simp[DC]
 obtain⟨r,h1,L,h2,g0,g1,g2⟩:=Ex.fold (E:=E1) (b:=VW) l (fun p x=>p++[!fo x]) []
  (fun j acc st=>∃ L,st=mkS B ((l.map e).map W.d) l.length j .u L/\L[0]?=some (aU kk ps)/\L[1]?=some (.row 0 1 (BDt acc++List.replicate (l.length-j) (.v (.bool false))))/\acc.length=j/\cu L)
  (fun acc r=>∃ L,r=(.exit 0,mkS B ((l.map e).map W.d) l.length l.length (.d (.v (.bool false))) L)/\L[0]?=some (aU kk ps)/\L[1]?=some (.row 0 1 (BDt acc))/\cu L)
  (fun j x st hx ⟨L,hst,g0,g1,g2,g3⟩=>by
   subst hst;have hj:j<l.length:=(bD hx)
   have k1:=ace (kk:=kk) (ps:=ps) B (l.map e) l.length j (e x) (fo x) (by simp) hn (by simp[hx]) L g0 _ false (by rw[Qb1 (by rw[iq];omega),iq,g2,Q30,Xa2,if_pos (by omega)]) g1 (hc x (Qa2 hx));rw[ad_ _ _ _ _ g2 hj]at k1;refine⟨_,k1,_,rfl,?_,?_,by rw[Qb0,g2];rfl,(g3.put 1 (acb ..)).add (cu.one (ab' _))⟩
   ·have:=(bD g0)
    rw[Qa0 (by simpa using this),Qc1 (by omega)];exact g0
   ·have:=(bD g1)
    rw[Qa0 (by simpa using this),Qe0 this])
  (fun st ⟨L,hst,g0,g1,g2,g3⟩=>by
   subst hst;rw[Q30,List.replicate_zero,Q01]at g1;refine⟨_,Ex.of (n:=60) (r:=(.exit 0,mkS B ((l.map e).map W.d) l.length l.length (.d (.v (.bool false))) L)) ?_,by simp,L,rfl,g0,g1,g3⟩;unfold mkS;simp -implicitDefEqProofs[VW,f1509])
  (st:=mkS B ((l.map e).map W.d) l.length 0 .u [aU kk ps,.row 0 1 (List.replicate l.length (.v (.bool false)))]) ⟨_,rfl,rfl,by simp[BDt],rfl,(cu.one (o:=aU kk ps) (ab' [.v (.int .i64 kk),.s 1 (LK .i64 ps)])).add (cu.one (acb ..))⟩
 subst h2;rw[YY,Qv1]at g1;have hel:((l.map e).map W.d).length=l.length:=by simp
 generalize (l.map e).map W.d=es at*;have n2:(l.length:Int)<=(most:Int):=by unfold most;omega
 have sA:Ex E1 f1509.body.l {vars:=[.d (bA kk ps),.d (.s 8 es),.u,.u,.u,.u,.u,.u,.u,.u,.u],base:=B,loc:=[],aP:=false}
   (.norm,{vars:=[.u,.d (.s 8 es),.r (.loc 0) 0,.u,.u,.u,.u,.u,.u,.u,.u],base:=B,loc:=[aU kk ps],aP:=false}):=by
  refine Ex.of (n:=60) ?_;unfold bA aU;simp -implicitDefEqProofs[f1509]
 have sB:Ex E1 f1509.body.r.l {vars:=[.u,.d (.s 8 es),.r (.loc 0) 0,.u,.u,.u,.u,.u,.u,.u,.u],base:=B,loc:=[aU kk ps],aP:=false}
   (.norm,{vars:=[.u,.d (.s 8 es),.r (.loc 0) 0,.u,.ls (.loc 1) 0 1 0 l.length,.u,.u,.u,.u,.u,.u],base:=B,loc:=[aU kk ps,.row 0 1 (List.replicate l.length (.v (.bool false)))],aP:=false}):=by
  refine Ex.of (n:=60) ?_;have n3:l.length<=most:=by omega
  simp -implicitDefEqProofs[f1509,hel,n3]
 have sC:Ex E1 f1509.body.r.r.l.l {vars:=[.u,.d (.s 8 es),.r (.loc 0) 0,.u,.ls (.loc 1) 0 1 0 l.length,.u,.u,.u,.u,.u,.u],base:=B,loc:=[aU kk ps,.row 0 1 (List.replicate l.length (.v (.bool false)))],aP:=false}
   (.norm,mkS B es l.length 0 .u [aU kk ps,.row 0 1 (List.replicate l.length (.v (.bool false)))]):=by
  refine Ex.of (n:=60) ?_;unfold mkS;simp -implicitDefEqProofs[f1509,hel]
 have sD:Ex E1 f1509.body.r.r.r (mkS B es l.length l.length (.d (.v (.bool false))) L) (.ret,{vars:=[.u,.u,.u,.ls (.loc 1) 0 1 0 l.length,.u,.u,.u,.u,.u,.u,.u],base:=B,loc:=L,aP:=false}):=by
  refine Ex.of (n:=60) ?_;unfold mkS;simp -implicitDefEqProofs[f1509]
 obtain⟨N,t⟩:=p8 (E:=E1) (g:=1509) (B:=B) (args:=[.d (bA kk ps),.d (.s 8 es)]) rfl (k1509:E1.fn _=_) rfl (sA.seq (sB.seq (Ex.seq (sC.seq (Ex.block h1)) sD))) (by simp) (r:=(.ls (.old (B.length+1)) 0 1 0 l.length,some (B++L))) (by
  have e1:List.map (ae.aA B.length) B=B:=hB _;have e2:List.map (ae.aA B.length) L=L:=g2.aaZ _;simp[finish,fZ,show f1509.res=[.var 3] from rfl,show f1509.ref=true from rfl,e1,e2,FV.aA])
 exact⟨L,B.length+1,N,g2,by omega,by rw[Qb1 (by omega),Xb0];exact g1,t⟩
end Fi.S
noncomputable section
namespace Fi.S
open Go Fi
set_option maxHeartbeats 8000000
set_option maxRecDepth 10000
def SD (st:List (Nat × Nat)):List D:=st.map fun x=>.a [.v (.int .i64 x.1),.v (.int .i64 x.2)]
theorem aib {st:List (Nat × Nat)}{j:Nat}{p q:Nat}(h:st[j]?=some (p,q)):(SD st)[j]?=some (.a [.v (.int .i64 p),.v (.int .i64 q)]):=by simp[SD,h]
def iU:aG:=f1510.body.r.bl.lp
def kE:aG:=f1510.body.r.bl.lp.r.bl.r.r.bl.lp
def sM (i s n k:Nat)(B:List ae)(m:List Bool)(c:Bool)(v5 v6 v7 v8:FV)(L:List ae)(dt:Bool):St :=
 {vars:=[.ls (.old i) 0 1 0 n,.ls (.old s) 0 2 0 k,.d (.v (.bool c)),.u,.u,v5,v6,v7,v8,.u],base:=B.set i (.row 0 1 (BDt m)),loc:=L,aP:=dt}
theorem acQ (i s n k:Nat)(B:List ae)(hn:n<=1000000)(hk:k<=1000000)(hi:i<B.length)(his:i≠s)(st:List (Nat × Nat))(hB:B[s]?=some (.row 0 2 (SD st)))(hst:st.length=k)(m:List Bool)(hm:m.length=n)(c:Bool)(L:List ae)(dt:Bool)
  (j p q:Nat) (hj:st[j]?=some (p,q)) (b1 b2:Bool) (h1:m[p]?=some b1) (h2:m[q]?=some b2) :
  Ex E1 kE (sM i s n k B m c (.ls (.old s) 0 2 0 k) (.d (.v (.int .i64 k))) (.d (.v (.int .i64 j))) .u L dt)
   (.norm,sM i s n k B (if b1 && !b2 then m.set q true else m) (if b1 && !b2 then true else c) (.ls (.old s) 0 2 0 k) (.d (.v (.int .i64 k))) (.d (.v (.int .i64 (j+1:Nat)))) .u (L++[.box [.d (.v (.int .i64 p)),.d (.v (.int .i64 q))]]) (if b1 && !b2 then true else dt)):=by
 have hjk:j<st.length:=(bD hj)
 have hj0:(0:Int)<=(j:Int):=by omega
 have hjn:(j:Int)<(k:Int):=by omega
 have bz:ah .i64 ((j:Int)+1)=(j:Int)+1:=wrap_i64 (by omega);have hk1:((j+1:Nat):Int)=(j:Int)+1:=by omega
 have hp:p<m.length:=(bD h1)
 have hq:q<m.length:=(bD h2)
 have hp0:(0:Int)<=(p:Int):=by omega
 have hq0:(0:Int)<=(q:Int):=by omega
 have hpn:(p:Int)<(n:Int):=by omega
 have VX:(q:Int)<(n:Int):=by omega
 have e1:=aib hj;have e2:=tq h1;have e3:=tq h2;have ls:s<B.length:=(bD hB)
 have hg:∀ X,(B.set i (.row 0 1 (BDt m))++X)[i]?=some (.row 0 1 (BDt m)):=fun X=>by rw[Qa0 (by simpa using hi)];exact Qe0 hi
 have hs:∀ X,(B.set i (.row 0 1 (BDt m))++X)[s]?=some (.row 0 2 (SD st)):=fun X=>by rw[Qa0 (by simpa using ls),Qc1 his];exact hB
 have hset:∀ r,(B.set i (.row 0 1 (BDt m))).set i r=B.set i r:=fun r=>List.set_set ..
 have hil:i<(B.set i (.row 0 1 (BDt m))).length:=by simpa using hi
 have sA:∀ c c':ae,(L++[c]).set L.length c'=L++[c']:=fun c c'=>by simp
 have hl1:¬ B.length<=i:=by omega
 have hsz:(SD st).length=k:=by simp[SD,hst]
 have M6:(BDt m).length=n:=by rw[iq,hm]
 have hw:=acd m q true;have qQ:j<(SD st).length:=by omega
 have hpe:p<(BDt m).length:=by omega
 have hqe:q<(BDt m).length:=by omega
 have i0:=fun X=>idx (hg X)
 have i1:=fun X=>idx (hs X)
 have i2:=idx e1;have i3:=idx e2;have i4:=idx e3;refine Ex.of (n:=300) ?_;unfold sM;rw[hk1];clear h1 h2 hj hB;cases b1<;>cases b2
 ·simp -implicitDefEqProofs[kE,f1510,hj0,hjn,bz,hp0,hq0,hpn,VX,e1,e2,e3,hg,hs,hset,hil,sA,qQ,hpe,hqe,i0,i1,i2,i3,i4]
 ·simp -implicitDefEqProofs[kE,f1510,hj0,hjn,bz,hp0,hq0,hpn,VX,e1,e2,e3,hg,hs,hset,hil,sA,qQ,hpe,hqe,i0,i1,i2,i3,i4]
 ·simp only[Bool.not_false,Bool.and_self,if_true];rw[<-hw];simp -implicitDefEqProofs[kE,f1510,hj0,hjn,bz,hp0,hq0,hpn,VX,e1,e2,e3,hg,hs,hset,hil,sA,qQ,hpe,hqe,i0,i1,i2,i3,i4,hi,hl1]
 ·simp -implicitDefEqProofs[kE,f1510,hj0,hjn,bz,hp0,hq0,hpn,VX,e1,e2,e3,hg,hs,hset,hil,sA,qQ,hpe,hqe,i0,i1,i2,i3,i4]
theorem ad' (i s n k:Nat)(B:List ae)(m:List Bool)(c:Bool)(L:List ae)(dt:Bool) :
  Ex E1 kE (sM i s n k B m c (.ls (.old s) 0 2 0 k) (.d (.v (.int .i64 k))) (.d (.v (.int .i64 k))) .u L dt) (.exit 2,sM i s n k B m c (.ls (.old s) 0 2 0 k) (.d (.v (.int .i64 k))) (.d (.v (.int .i64 k))) (.d (.v (.bool false))) L dt):=by
 refine Ex.of (n:=60) ?_;unfold sM;simp -implicitDefEqProofs[kE,f1510]
theorem aea (i s n k:Nat)(B:List ae)(hn:n<=1000000)(hk:k<=1000000)(hi:i<B.length)(his:i≠s)(st:List (Nat × Nat))(hB:B[s]?=some (.row 0 2 (SD st)))(hst:st.length=k)(hr:∀ x ∈ st,x.1<n/\x.2<n)(m:List Bool)(hm:m.length=n)(c:Bool)(L:List ae)(hL:cu L)(dt:Bool) :
  ∃ L' Eh,cu L'/\(Eh=false->dt=false/\(st.foldl sp2 (m,c)).1=m)/\Ex E1 (.loop kE) (sM i s n k B m c (.ls (.old s) 0 2 0 k) (.d (.v (.int .i64 k))) (.d (.v (.int .i64 (0:Nat)))) .u L dt)
   (.exit 2,sM i s n k B (st.foldl sp2 (m,c)).1 (st.foldl sp2 (m,c)).2 (.ls (.old s) 0 2 0 k) (.d (.v (.int .i64 k))) (.d (.v (.int .i64 k))) (.d (.v (.bool false))) L' Eh):=by
 obtain⟨r,h1,L',Eh,h2,h3,h4⟩:=Ex.fold (E:=E1) (b:=kE) st sp2 (m,c)
  (fun j x t=>∃ L Eh,t=sM i s n k B x.1 x.2 (.ls (.old s) 0 2 0 k) (.d (.v (.int .i64 k))) (.d (.v (.int .i64 j))) .u L Eh/\cu L/\x.1.length=n/\(Eh=false->dt=false/\x.1=m))
  (fun x r=>∃ L Eh,r=(.exit 2,sM i s n k B x.1 x.2 (.ls (.old s) 0 2 0 k) (.d (.v (.int .i64 k))) (.d (.v (.int .i64 k))) (.d (.v (.bool false))) L Eh)/\cu L/\(Eh=false->dt=false/\x.1=m))
  (fun j x t hx ⟨L,Eh,ht,g1,g2,g3⟩=>by
   subst ht;obtain⟨p,q⟩:=x;generalize (st.take j).foldl sp2 (m,c)=y at*;obtain⟨y1,y2⟩:=y;obtain⟨q1,q2⟩:=hr _ (Qa2 hx);simp only at q1 q2 g2 g3 ⊢;have a1:y1[p]?=some (y1[p]'(by omega)):=Qa1 (by omega);have a2:y1[q]?=some (y1[q]'(by omega)):=Qa1 (by omega);have k1:=acQ i s n k B hn hk hi his st hB hst y1 g2 y2 L Eh j p q hx _ _ a1 a2;have hc:qy y1 (p,q)=(y1[p]'(by omega) && !y1[q]'(by omega)):=by
    unfold qy;rw[Qq2,Qq2,a1,a2];rfl
   rw[<-hc]at k1;have hs:=aaL (m:=y1) (e:=(p,q)) (by show q<_;omega);have e1:(if qy y1 (p,q)=true then y1.set q true else y1)=sp1 y1 (p,q):=by
    cases hv:qy y1 (p,q) with
    | false=>rw[hv,if_neg (by simp)]at hs;rw[if_neg (by simp),hs]
    | true =>
     rw[if_pos rfl];unfold sp1;rw[hc]at hv;have:y1[p]'(by omega)=true:=by cases h:y1[p]'(by omega)<;>simp[h]at hv ⊢
     rw[if_pos (by rw[a1,this])]
   have e2:(if qy y1 (p,q)=true then true else y2)=(y2||qy y1 (p,q)):=by cases qy y1 (p,q)<;>simp
   rw[e1,e2]at k1;refine⟨_,k1,_,_,rfl,g1.add (cu.one (ab' [.v (.int .i64 p),.v (.int .i64 q)])),by show(sp1 y1 (p,q)).length=n;rw[aaJ,g2],fun h => ?_⟩;cases hv:qy y1 (p,q) with
   | true=>rw[hv,if_pos rfl]at h;cases h
   | false =>
    rw[hv,if_neg (by simp)]at h hs;exact⟨(g3 h).1,by show sp1 y1 (p,q)=m;rw[hs];exact(g3 h).2⟩)
  (fun t ⟨L,Eh,ht,g1,g2,g3⟩=>by
   subst ht;rw[hst];exact⟨_,ad' i s n k B _ _ L Eh,by simp,L,Eh,rfl,g1,g3⟩)
  (st:=sM i s n k B m c (.ls (.old s) 0 2 0 k) (.d (.v (.int .i64 k))) (.d (.v (.int .i64 (0:Nat)))) .u L dt) ⟨L,dt,rfl,hL,hm,fun h=>⟨h,rfl⟩⟩
 subst h2;exact⟨L',Eh,h3,h4,h1⟩
def spread (i:Nat)(B:List ae)(m m':List Bool)(r:FV × Option (List ae)):Prop :=
 (r=(uC [],none)/\m'=m)\/∃ L,cu L/\r=(uC [],some (B.set i (.row 0 1 (BDt m'))++L))
theorem aa0 (i s n k:Nat)(B:List ae)(hO:iI B)(hn:n<=1000000)(hk:k<=1000000)(his:i≠s)(st:List (Nat × Nat))(hB:B[s]?=some (.row 0 2 (SD st)))(hst:st.length=k)(hr:∀ x ∈ st,x.1<n/\x.2<n)(m:List Bool)(hm:m.length=n)(hi:B[i]?=some (.row 0 1 (BDt m))) :
  ∃ r N,spread i B m (sN m st) r/\∀ x,CL E1 (N+x) 1510 [.ls (.old i) 0 1 0 n,.ls (.old s) 0 2 0 k] B=some r:=by
 have hil:i<B.length:=(bD hi)
 have hself:B.set i (.row 0 1 (BDt m))=B:=by
  obtain⟨h,e'⟩:=Qr0.1 hi;rw[<-e',X01]
 have hr2:∀ x ∈ st,x.2<m.length:=fun x hx=>by rw[hm];exact(hr x hx).2
 obtain⟨r,h1,v5,v6,v7,L',Eh,h2,h3,h4⟩:=Ex.inv (E:=E1) (b:=iU)
  (fun a:(List Bool × Bool) × (FV × FV × FV × FV) × List ae × Bool=>sM i s n k B a.1.1 a.1.2 a.2.1.1 a.2.1.2.1 a.2.1.2.2.1 a.2.1.2.2.2 a.2.2.1 a.2.2.2)
  (fun a=>(n-cnt a.1.1)+(if a.1.2 then 1 else 0))
  (fun a=>Sp m st a.1.1/\(a.1.2=false->∀ x ∈ st,qy a.1.1 x=false)/\cu a.2.2.1/\(a.2.2.2=false->a.1.1=m))
  (fun r=>∃ v5 v6 v7 L dt,r=(.exit 0,{vars:=[.ls (.old i) 0 1 0 n,.ls (.old s) 0 2 0 k,.u,.u,.d (.v (.bool false)),v5,v6,v7,.u,.u],base:=B.set i (.row 0 1 (BDt (sN m st))),loc:=L,aP:=dt})/\cu L/\(dt=false->sN m st=m))
  (fun a ⟨g1,g2,g3,g4⟩=>by
   obtain⟨⟨m1,c⟩,⟨v5,v6,v7,v8⟩,L,dt⟩:=a;simp only at g1 g2 g3 g4 ⊢;cases c with
   | false =>
    refine .inr ⟨_,Ex.of (n:=60) (r:=(.exit 0,{vars:=[.ls (.old i) 0 1 0 n,.ls (.old s) 0 2 0 k,.u,.u,.d (.v (.bool false)),.u,.u,.u,.u,.u],base:=B.set i (.row 0 1 (BDt m1)),loc:=L,aP:=dt})) ?_,by simp,.u,.u,.u,L,dt,?_,g3,?_⟩
    ·unfold sM;simp -implicitDefEqProofs[iU,f1510]
    ·rw[g1.done (g2 rfl)]
    ·intro h;rw[<-g1.done (g2 rfl)];exact g4 h
   | true =>
    have hm1:m1.length=n:=by rw[g1.len,hm]
    obtain⟨L',Eh,k1,k2,k3⟩:=aea i s n k B hn hk hil his st hB hst hr m1 hm1 false L g3 dt;obtain⟨q1,q2,q3,q4⟩:=sP hr2 st m1 false (fun _ h=>h) g1;generalize st.foldl sp2 (m1,false)=y at*;obtain⟨y1,y2⟩:=y;simp only at k2 k3 q1 q2 q3 q4;have sA:Ex E1 iU.l (sM i s n k B m1 true v5 v6 v7 v8 L dt) (.norm,{vars:=[.ls (.old i) 0 1 0 n,.ls (.old s) 0 2 0 k,.u,.u,.d (.v (.bool true)),.u,.u,.u,.u,.u],base:=B.set i (.row 0 1 (BDt m1)),loc:=L,aP:=dt}):=by
     refine Ex.of (n:=60) ?_;unfold sM;simp -implicitDefEqProofs[iU,f1510]
    have sB:Ex E1 iU.r.bl.l {vars:=[.ls (.old i) 0 1 0 n,.ls (.old s) 0 2 0 k,.u,.u,.d (.v (.bool true)),.u,.u,.u,.u,.u],base:=B.set i (.row 0 1 (BDt m1)),loc:=L,aP:=dt} (.norm,sM i s n k B m1 false .u .u .u .u L dt):=by
     refine Ex.of (n:=60) ?_;unfold sM;simp -implicitDefEqProofs[iU,f1510]
    have sC:Ex E1 iU.r.bl.r.l (sM i s n k B m1 false .u .u .u .u L dt) (.norm,sM i s n k B m1 false (.ls (.old s) 0 2 0 k) (.d (.v (.int .i64 k))) (.d (.v (.int .i64 (0:Nat)))) .u L dt):=by
     refine Ex.of (n:=60) ?_;unfold sM;rw[show((0:Nat):Int)=0 from rfl];simp -implicitDefEqProofs[iU,f1510]
    refine .inl ⟨((y1,y2),(.ls (.old s) 0 2 0 k,.d (.v (.int .i64 k)),.d (.v (.int .i64 k)),.d (.v (.bool false))),L',Eh),?_,?_,q1,fun h => ?_,k1,fun h => ?_⟩
    ·show Ex E1 (.seq iU.l (.block 1 (.seq iU.r.bl.l (.seq iU.r.bl.r.l (.block 2 (.loop kE)))))) _ _;exact sA.seq (Ex.gm (sB.seq (sC.seq (Ex.block k3))))
    ·simp only;have:=abQ m1;have:=abQ y1;rw[q1.len,hm]at this;cases y2 with
     | false=>simp;omega
     | true =>
      rcases q3 rfl with h|h
      ·cases h
      ·simp;omega
    ·obtain⟨_,e1,e2⟩:=q4 h;simp only at e1 e2 ⊢;rw[e1];exact e2
    ·obtain⟨e1,e2⟩:=k2 h;simp only at e2 ⊢;rw[e2];exact g4 e1)
  ((m,true),(.u,.u,.u,.u),[],false) ⟨Sp.refl m st,(fun h=>by simp at h),cu.nil,(fun _=>rfl)⟩
 subst h2;have sA:Ex E1 f1510.body.l {vars:=[.ls (.old i) 0 1 0 n,.ls (.old s) 0 2 0 k,.u,.u,.u,.u,.u,.u,.u,.u],base:=B,loc:=[],aP:=false} (.norm,sM i s n k B m true .u .u .u .u [] false):=by
  refine Ex.of (n:=60) ?_;unfold sM;rw[hself];simp -implicitDefEqProofs[f1510]
 have hb:=sA.seq (Ex.block h1);cases Eh with
 | false =>
  obtain⟨N,t⟩:=p8 (E:=E1) (g:=1510) (B:=B) (args:=[.ls (.old i) 0 1 0 n,.ls (.old s) 0 2 0 k]) rfl (k1510:E1.fn _=_) rfl hb (by simp) (r:=(uC [],none)) (by
   simp[finish,fZ,show f1510.res=[] from rfl,show f1510.ref=true from rfl,lL,oneOf,uC,jZ])
  exact⟨_,N,.inl ⟨rfl,h4 rfl⟩,t⟩
 | true =>
  have e1:List.map (ae.aA B.length) (B.set i (.row 0 1 (BDt (sN m st))))=B.set i (.row 0 1 (BDt (sN m st))):=(hO.put i (fun n=>rfl)) _;have e2:List.map (ae.aA B.length) L'=L':=h3.aaZ _;obtain⟨N,t⟩:=p8 (E:=E1) (g:=1510) (B:=B) (args:=[.ls (.old i) 0 1 0 n,.ls (.old s) 0 2 0 k]) rfl (k1510:E1.fn _=_) rfl hb (by simp) (r:=(uC [],some (B.set i (.row 0 1 (BDt (sN m st)))++L'))) (by
   simp[finish,fZ,show f1510.res=[] from rfl,show f1510.ref=true from rfl,lL,oneOf,uC,jZ,e1,e2,FV.aA,FV.aR])
  exact⟨_,N,.inr ⟨L',h3,rfl⟩,t⟩
end Fi.S
noncomputable section
namespace Fi.S
open Go Fi
set_option maxHeartbeats 8000000
set_option maxRecDepth 10000
variable {α:Type} {e:α->W}
def Ar.turn (a:Ar α):Ar α:=⟨a.t,a.l,a.f,a.x⟩
theorem acU (l:List (Ar α)):dM (l.map Ar.turn)=VV l:=by simp[dM,VV,Ar.turn,Xu2]
def acX (px:FV)(L:List ae)(aq:List D):Prop:=(px=.d (.n 11)/\aq=[])\/∃ i az,3<=i/\px=.ls (.loc i) az 11 0 aq.length/\L[i]?=some (.row az 11 aq)
def ic (kk:Int)(ps:List Int)(sy st:Int)(aM fin:List D)(px:FV):ae:=.box [.d (.v (.int .i64 kk)),.d (.s 1 (LK .i64 ps)),.d (.v (.int .i64 sy)),.d (.v (.int .i64 st)),.d (.s 8 aM),.d (.s 8 fin),px]
def Ev:aG:=f1508.body.r.r.r.l.r.bl.lp
def bJ (ak:List D)(L:List ae)(j:Nat)(t:FV):St :=
 (st0 [.u,.u,.r (.loc 1) 0,.r (.loc 2) 0,.u,.d (.s 11 ak),.d (.v (.int .i64 ak.length)),.d (.v (.int .i64 j)),t] L)
theorem acY (kk:Int)(ps:List Int)(sy st:Int)(aM fin:List D)(ak:List (Ar α))(h3:ak.length<=1000000)(L:List ae)(px:FV)(aq:List D)(hlen:aq.length<=1000000)(h2:L[2]?=some (ic kk ps sy st aM fin px))(ho:acX px L aq)
  (j:Nat) (a:Ar α) (ha:ak[j]?=some a) :
  ∃ pJ L',Ex E1 Ev (bJ (ak.map (Ar.d e)) L j .u) (.norm,bJ (ak.map (Ar.d e)) L' (j+1) .u)/\(∀ i,i<2->L'[i]?=L[i]?)/\L'[2]?=some (ic kk ps sy st aM fin pJ)/\acX pJ L' (aq++[a.turn.d e]):=by
 have hj:j<ak.length:=(bD ha)
 have hj0:(0:Int)<=(j:Int):=by omega
 have bz:ah .i64 ((j:Int)+1)=(j:Int)+1:=wrap_i64 (by omega);have hk1:((j+1:Nat):Int)=(j:Int)+1:=by omega
 have e1:(ak.map (Ar.d e))[j]?=some (a.d e):=by simp[ha]
 have l2:2<L.length:=(bD h2)
 have m1:152<=most:=by unfold most;omega
 have m2:1<=most:=by unfold most;omega
 have m3:(aq.length+1)*152<=most:=by unfold most;omega
 have m4:aq.length+1<=most:=by unfold most;omega
 have sA:∀ b b':ae,(L++[b]).set L.length b'=L++[b']:=fun b b'=>by simp
 have hg:∀ b:ae,(L++[b])[L.length]?=some b:=fun b=>by simp
 have g2:∀ X,(L++X)[2]?=some (ic kk ps sy st aM fin px):=fun X=>by rw[Qa0 l2];exact h2
 have s2:∀ X r,(L++X).set 2 r=L.set 2 r++X:=fun X r=>Qy0 _ _ l2
 obtain⟨s,l1,l3,c,b,u',q,ps',ew,ed⟩:=a.jD e;have ed':a.turn.d e=yO a.t a.l a.f s l1 l3 c b u' q ps':=by
  obtain⟨f',l',t',x'⟩:=a;unfold Ar.turn Ar.d yO at*;simp only at ew;rw[ew];rfl
 rw[ed'];rw[ed]at e1;unfold yO at*;clear ew ed ed';rcases ho with ⟨rfl,rfl⟩|⟨i,az,h5,rfl,h7⟩
 ·refine⟨.ls (.loc (L.length+1)) 0 11 0 1,L.set 2 (ic kk ps sy st aM fin (.ls (.loc (L.length+1)) 0 11 0 1))++[.box [.d (.v (.int .i64 a.t)),.d (.v (.int .i64 a.l)),.d (.v (.int .i64 a.f)),.d (.v (.bool s)),.d (.s 1 l1),.d (.s 1 l3),.d (.v (.int .i64 c)),.d (.v (.bool b)),.d (.v (.int .u64 u')),.d (.s 6 q),.d (.s 8 ps')],.row 0 11 [.a [.v (.int .i64 a.t),.v (.int .i64 a.l),.v (.int .i64 a.f),.v (.bool s),.s 1 l1,.s 1 l3,.v (.int .i64 c),.v (.bool b),.v (.int .u64 u'),.s 6 q,.s 8 ps']]],?_,fun i hi => ?_,?_,.inr ⟨L.length+1,0,by omega,rfl,?_⟩⟩
  ·refine Ex.of (n:=300) ?_;unfold bJ ic at*;rw[hk1];generalize LK .i64 ps=l9,ak.map (Ar.d e)=x3 at*;have i1:=idx e1;have qQ:j<x3.length:=(bD e1)
   have hjl:(j:Int)<(x3.length:Int):=by omega
   have i2:=fun X=>idx (g2 X)
   simp -implicitDefEqProofs[Ev,f1508,hj0,qQ,hjl,bz,e1,i1,i2,g2,h2,hg,sA,s2,l2,m1,m2]
  ·rw[Qa0 (by simp;omega),Qc1 (by omega)]
  ·rw[Qa0 (by simpa using l2)];exact Qe0 l2
  ·rw[Qb1 (by simp)];simp
 ·have hil:i<L.length:=(bD h7)
  refine⟨.ls (.loc i) (az+1) 11 0 (aq.length+1),(L.set i (.row (az+1) 11 (aq++[.a [.v (.int .i64 a.t),.v (.int .i64 a.l),.v (.int .i64 a.f),.v (.bool s),.s 1 l1,.s 1 l3,.v (.int .i64 c),.v (.bool b),.v (.int .u64 u'),.s 6 q,.s 8 ps']]))).set 2 (ic kk ps sy st aM fin (.ls (.loc i) (az+1) 11 0 (aq.length+1)))++[.box [.d (.v (.int .i64 a.t)),.d (.v (.int .i64 a.l)),.d (.v (.int .i64 a.f)),.d (.v (.bool s)),.d (.s 1 l1),.d (.s 1 l3),.d (.v (.int .i64 c)),.d (.v (.bool b)),.d (.v (.int .u64 u')),.d (.s 6 q),.d (.s 8 ps')]],?_,fun i' hi => ?_,?_,.inr ⟨i,az+1,h5,by simp,?_⟩⟩
  ·refine Ex.of (n:=300) ?_;unfold bJ ic at*;rw[hk1];have hne:i≠2:=by omega
   have gi:∀ X,(L++X)[i]?=some (.row az 11 aq):=fun X=>by rw[Qa0 hil];exact h7
   have si:∀ X r,(L++X).set i r=L.set i r++X:=fun X r=>Qy0 _ _ hil
   have g2':∀ r X,(L.set i r++X)[2]?=some (.box [.d (.v (.int .i64 kk)),.d (.s 1 (LK .i64 ps)),.d (.v (.int .i64 sy)),.d (.v (.int .i64 st)),.d (.s 8 aM),.d (.s 8 fin),.ls (.loc i) az 11 0 aq.length]):=fun r X=>by rw[Qa0 (by simpa using l2),Qc1 hne];exact h2
   have s2':∀ r X o,(L.set i r++X).set 2 o=(L.set i r).set 2 o++X:=fun r X o=>Qy0 _ _ (by simpa using l2)
   have O7:aq.take aq.length=aq:=Qo2;generalize LK .i64 ps=l9,ak.map (Ar.d e)=x3 at*;have i1:=idx e1;have qQ:j<x3.length:=(bD e1)
   have hjl:(j:Int)<(x3.length:Int):=by omega
   have i2:=fun X=>idx (g2 X)
   have i3:=fun X=>idx (gi X)
   have i4:∀ r X (h:2<(L.set i r++X).length),(L.set i r++X)[2]=_:=fun r X h=>idx (g2' r X) h
   simp -implicitDefEqProofs[Ev,f1508,hj0,qQ,hjl,bz,e1,i1,i2,i3,i4,g2,g2',gi,h2,h7,hg,sA,s2,s2',si,l2,hil,O7,m3,m4]
  ·rw[Qa0 (by simp;omega),Qc1 (by omega),Qc1 (by omega)]
  ·rw[Qa0 (by simpa using l2)];exact Qe0 (by simpa using l2)
  ·rw[Qa0 (by simpa using hil),Qc1 (by omega)];exact Qe0 hil
theorem aeb (ak:List D)(L:List ae):Ex E1 Ev (bJ ak L ak.length .u) (.exit 0,bJ ak L ak.length (.d (.v (.bool false)))):=by
 refine Ex.of (n:=60) ?_;unfold bJ;simp -implicitDefEqProofs[Ev,f1508]
theorem aec (kk:Int)(ps:List Int)(sy st:Int)(aM fin:List D)(ak:List (Ar α))(h3:ak.length<=100000)(L:List ae)(h2:L[2]?=some (ic kk ps sy st aM fin (.d (.n 11)))) :
  ∃ px L',Ex E1 (.loop Ev) (bJ (ak.map (Ar.d e)) L 0 .u) (.exit 0,bJ (ak.map (Ar.d e)) L' ak.length (.d (.v (.bool false))))/\(∀ i,i<2->L'[i]?=L[i]?)/\L'[2]?=some (ic kk ps sy st aM fin px)/\acX px L' ((ak.map Ar.turn).map (Ar.d e)):=by
 obtain⟨r,h1,px,L',rfl,h4,h5,h6⟩:=Ex.fold (E:=E1) (b:=Ev) ak (fun(aq:List D) a=>aq++[a.turn.d e]) []
  (fun j aq st'=>aq.length=j/\∃ px M,st'=bJ (ak.map (Ar.d e)) M j .u/\(∀ i,i<2->M[i]?=L[i]?)/\M[2]?=some (ic kk ps sy st aM fin px)/\acX px M aq)
  (fun aq r=>∃ px M,r=(.exit 0,bJ (ak.map (Ar.d e)) M ak.length (.d (.v (.bool false))))/\(∀ i,i<2->M[i]?=L[i]?)/\M[2]?=some (ic kk ps sy st aM fin px)/\acX px M aq)
  (fun j a st' ha ⟨hlen,px,M,hst,q1,q2,q3⟩=>by
   subst hst;have hj:j<ak.length:=(bD ha)
   obtain⟨pJ,M',r1,r2,r3,r4⟩:=acY (e:=e) kk ps sy st aM fin ak (by omega) M px _ (by omega) q2 q3 j a ha;exact⟨_,r1,by rw[Qb0,hlen];rfl,pJ,M',rfl,fun i hi=>(r2 i hi).trans (q1 i hi),r3,r4⟩)
  (fun st' ⟨hlen,px,M,hst,q1,q2,q3⟩=>by
   subst hst;have n3:(ak.map (Ar.d e)).length=ak.length:=by simp
   have:=aeb (ak.map (Ar.d e)) M;rw[n3]at this;exact⟨_,this,by simp,px,M,rfl,q1,q2,q3⟩)
  (st:=bJ (ak.map (Ar.d e)) L 0 .u) ⟨rfl,.d (.n 11),L,rfl,fun i _=>rfl,h2,.inl ⟨rfl,rfl⟩⟩
 rw[qo,Qv1]at h6;refine⟨px,L',h1,h4,h5,?_⟩;rw[Xc2];exact h6
theorem three {L:List ae}{a b c:ae}(h0:L[0]?=some a)(h1:L[1]?=some b)(h2:L[2]?=some c):∃ T,L=a::b::c::T:=by
 match L,h0,h1,h2 with
 | a'::b'::c'::T,h0,h1,h2 =>
  simp at h0 h1 h2;subst h0 h1 h2;exact⟨T,rfl⟩
 | [],h0,_,_=>simp at h0
 | [_],_,h1,_=>simp at h1
 | [_,_],_,_,h2=>simp at h2
theorem aa1 (kk:Int)(ps:List Int)(sy st:Int)(aM fin:List D)(ak:List (Ar α))(h3:ak.length<=100000) :
  Ca E1 1508 [.d (qW kk ps sy st aM fin (ak.map (Ar.d e)))] (.d (qW kk ps sy st fin aM ((ak.map Ar.turn).map (Ar.d e))),none):=by
 obtain⟨bx,hbx⟩:∃ bx,bx=aD kk ps sy st aM fin (ak.map (Ar.d e)):=⟨_,rfl⟩
 obtain⟨px,L,h1,k0,k2,ko⟩:=aec (e:=e) kk ps sy st fin aM ak h3 [bx,Hq,ic kk ps sy st fin aM (.d (.n 11))] rfl;obtain⟨T,rfl⟩:=three ((k0 0 (by omega)).trans rfl) ((k0 1 (by omega)).trans rfl) k2;have sA:Ex E1 f1508.body.l (st0 [.d (qW kk ps sy st aM fin (ak.map (Ar.d e))),.u,.u,.u,.u,.u,.u,.u,.u] []) (.norm,(st0 [.u,.r (.loc 0) 0,.r (.loc 1) 0,.u,.u,.u,.u,.u,.u] [bx,Hq])):=by
  refine Ex.of (n:=60) ?_;rw[hbx];unfold qW aD Hq;simp -implicitDefEqProofs[f1508]
 have sB:Ex E1 f1508.body.r.l (st0 [.u,.r (.loc 0) 0,.r (.loc 1) 0,.u,.u,.u,.u,.u,.u] [bx,Hq]) (.norm,(st0 [.u,.r (.loc 0) 0,.r (.loc 1) 0,.r (.loc 2) 0,.u,.u,.u,.u,.u] [bx,Hq,bx])):=by
  refine Ex.of (n:=60) ?_;rw[hbx];unfold aD Hq;simp -implicitDefEqProofs[f1508]
 have sC:Ex E1 f1508.body.r.r.l (st0 [.u,.r (.loc 0) 0,.r (.loc 1) 0,.r (.loc 2) 0,.u,.u,.u,.u,.u] [bx,Hq,bx]) (.norm,(st0 [.u,.r (.loc 0) 0,.r (.loc 1) 0,.r (.loc 2) 0,.u,.u,.u,.u,.u] [bx,Hq,ic kk ps sy st fin aM (.d (.n 11))])):=by
  refine Ex.of (n:=60) ?_;rw[hbx];unfold aD Hq ic;simp -implicitDefEqProofs[f1508,checked,pK,GH,Ref.abs,nM,FV.target]
 have sD:Ex E1 f1508.body.r.r.r.l.l (st0 [.u,.r (.loc 0) 0,.r (.loc 1) 0,.r (.loc 2) 0,.u,.u,.u,.u,.u] [bx,Hq,ic kk ps sy st fin aM (.d (.n 11))]) (.norm,bJ (ak.map (Ar.d e)) [bx,Hq,ic kk ps sy st fin aM (.d (.n 11))] 0 .u):=by
  refine Ex.of (n:=60) ?_;rw[hbx];unfold aD Hq bJ ic;simp -implicitDefEqProofs[f1508]
 have sE:∃ st',Ex E1 f1508.body.r.r.r.r (bJ (ak.map (Ar.d e)) (bx::Hq::ic kk ps sy st fin aM px::T) ak.length (.d (.v (.bool false)))) (.ret,st')/\finish f1508 st'=some (.d (qW kk ps sy st fin aM ((ak.map Ar.turn).map (Ar.d e))),none):=by
  clear h1 k0 k2 sA sB sC sD hbx;unfold bJ Hq ic qW;generalize (ak.map Ar.turn).map (Ar.d e)=q3,ak.map (Ar.d e)=x3,LK .i64 ps=l9 at*;rcases ko with ⟨rfl,rfl⟩|⟨i,az,h5,rfl,h7⟩
  ·refine⟨_,Ex.of (n:=200) (by simp -implicitDefEqProofs[f1508];rfl),?_⟩;simp[finish,show f1508.res=[.cell 2 true 7] from rfl,show f1508.ref=false from rfl]
  ·obtain⟨i',rfl⟩:∃ i',i=i'+3:=⟨i-3,by omega⟩
   simp only[Xu0]at h7;have il:i'<T.length:=(bD h7)
   have i7:=idx h7;refine⟨_,Ex.of (n:=200) (by simp -implicitDefEqProofs[f1508,h7,i7,il];rfl),?_⟩;simp[finish,show f1508.res=[.cell 2 true 7] from rfl,show f1508.ref=false from rfl,h7,i7,il,ae.view]
 obtain⟨st',e1,e2⟩:=sE;exact Ca.body (o:=.ret) rfl (k1508:E1.fn _=_) rfl (sA.seq (sB.seq (sC.seq (Ex.seq (sD.seq (Ex.block h1)) e1)))) (by simp) e2
end Fi.S
noncomputable section
namespace Fi.S
open Go Fi
set_option maxHeartbeats 8000000
set_option maxRecDepth 10000
variable {α:Type} {e:α->W} {fo:α->Bool}
def xD (a:Ar α):D:=.a [.v (.int .i64 a.f),.v (.int .i64 a.t)]
theorem afK {n:Nat}{l:List (Ar α)}(h:∀ a ∈ l,(0<=a.f/\a.f<n)/\(0<=a.t/\a.t<n)):l.map xD=SD (dM l)/\∀ x ∈ dM l,x.1<n/\x.2<n:=by
 refine⟨?_,fun x hx => ?_⟩
 ·unfold SD dM;rw[Xc2];refine Xf1 fun a ha => ?_
  obtain⟨⟨h1,h2⟩,h3,h4⟩:=h a ha;show xD a=.a [.v (.int .i64 (a.f.toNat:Int)),.v (.int .i64 (a.t.toNat:Int))];rw[X32 h1,X32 h3];rfl
 ·obtain⟨a,ha,rfl⟩:=Qh2.1 hx;have:=h a ha;simp only;omega
def zIt:D:=.a [.v (.int .i64 0),.v (.int .i64 0)]
def QZ:aG:=f3507.body.r.r.l.r.bl.lp
def eD (B:List ae)(ak:List D)(n j:Nat)(t:FV)(L:List ae):St :=
 {vars:=[.u,.r (.loc 0) 0,.u,.ls (.loc 1) 0 2 0 n,.u,.u,.u,.d (.s 11 ak),.d (.v (.int .i64 n)),.d (.v (.int .i64 j)),t],base:=B,loc:=L,aP:=false}
theorem adh (B:List ae)(ak:List (Ar α))(n j:Nat)(a:Ar α)(hl:ak.length=n)(hn:n<=1000000)(ha:ak[j]?=some a)(L:List ae)(R:List D)(hR:R[j]?=some zIt)(h1:L[1]?=some (.row 0 2 R)) :
  Ex E1 QZ (eD B (ak.map (Ar.d e)) n j .u L) (.norm,eD B (ak.map (Ar.d e)) n (j+1) .u (L.set 1 (.row 0 2 (R.set j (xD a)))++[fE e a])):=by
 have hj:j<ak.length:=(bD ha)
 have hj0:(0:Int)<=(j:Int):=by omega
 have hjn:(j:Int)<(n:Int):=by omega
 have bz:ah .i64 ((j:Int)+1)=(j:Int)+1:=wrap_i64 (by omega);have hk1:((j+1:Nat):Int)=(j:Int)+1:=by omega
 have e1:(ak.map (Ar.d e))[j]?=some (a.d e):=by simp[ha]
 have l1:1<L.length:=(bD h1)
 have g1:∀ X,(L++X)[1]?=some (.row 0 2 R):=fun X=>by rw[Qa0 l1];exact h1
 have sA:∀ b b':ae,(L++[b]).set L.length b'=L++[b']:=fun b b'=>by simp
 have hg:∀ b:ae,(L++[b])[L.length]?=some b:=fun b=>by simp
 have s1:∀ X r,(L++X).set 1 r=L.set 1 r++X:=fun X r=>Qy0 _ _ l1
 have ZK:j<R.length:=(bD hR)
 unfold zIt at hR;have iR:=idx hR;obtain⟨s,l2,l3,c,b,u',q,ps',ew,ed⟩:=a.jD e;unfold fE xD;rw[ed]at e1 ⊢;clear ew ed;unfold yO at*;simp only[D.cells,Qe1,Qc2];generalize ak.map (Ar.d e)=es at*;have i0:=idx e1;have j1:=fun X=>idx (g1 X)
 have qQ:j<es.length:=(bD e1)
 refine Ex.of (n:=300) ?_;unfold eD;rw[hk1];simp -implicitDefEqProofs[QZ,f3507,hj0,hjn,qQ,ZK,bz,e1,i0,iR,j1,g1,h1,hg,sA,s1,l1]
theorem adk (acc:List D)(v z:D)(n j:Nat)(h:acc.length=j)(hj:j<n):(acc++List.replicate (n-j) z).set j v=(acc++[v])++List.replicate (n-(j+1)) z:=by
 obtain⟨d,hd⟩:∃ d,n-j=d+1:=⟨n-j-1,by omega⟩
 rw[hd,show n-(j+1)=d by omega,Xc0,Qw0 _ _ (by omega),h,Q30];simp
theorem aed (B:List ae)(ak:List (Ar α))(hn:ak.length<=1000000)(b:ae)(hb:Dat b) :
  ∃ L,Ex E1 (.loop QZ) (eD B (ak.map (Ar.d e)) ak.length 0 .u [b,.row 0 2 (List.replicate ak.length zIt)]) (.exit 0,eD B (ak.map (Ar.d e)) ak.length ak.length (.d (.v (.bool false))) L)/\L[0]?=some b/\L[1]?=some (.row 0 2 (ak.map xD))/\cu L:=by
 obtain⟨r,h1,L,h2,g0,g1,g2⟩:=Ex.fold (E:=E1) (b:=QZ) ak (fun(p:List D) x=>p++[xD x]) []
  (fun j acc st=>∃ L,st=eD B (ak.map (Ar.d e)) ak.length j .u L/\L[0]?=some b/\L[1]?=some (.row 0 2 (acc++List.replicate (ak.length-j) zIt))/\acc.length=j/\cu L)
  (fun acc r=>∃ L,r=(.exit 0,eD B (ak.map (Ar.d e)) ak.length ak.length (.d (.v (.bool false))) L)/\L[0]?=some b/\L[1]?=some (.row 0 2 acc)/\cu L)
  (fun j x st hx ⟨L,hst,g0,g1,g2,g3⟩=>by
   subst hst;have hj:j<ak.length:=(bD hx)
   have k1:=adh (e:=e) B ak ak.length j x rfl hn hx L _ (by rw[Qb1 (by omega),g2,Q30,Xa2,if_pos (by omega)]) g1;rw[adk _ _ _ _ _ g2 hj]at k1;refine⟨_,k1,_,rfl,?_,?_,by rw[Qb0,g2];rfl,(g3.put 1 (acb ..)).add (cu.one (ab' _))⟩
   ·have:=(bD g0)
    rw[Qa0 (by simpa using this),Qc1 (by omega)];exact g0
   ·have:=(bD g1)
    rw[Qa0 (by simpa using this),Qe0 this])
  (fun st ⟨L,hst,g0,g1,g2,g3⟩=>by
   subst hst;rw[Q30,List.replicate_zero,Q01]at g1;refine⟨_,Ex.of (n:=60) (r:=(.exit 0,eD B (ak.map (Ar.d e)) ak.length ak.length (.d (.v (.bool false))) L)) ?_,by simp,L,rfl,g0,g1,g3⟩;unfold eD;simp -implicitDefEqProofs[QZ,f3507])
  (st:=eD B (ak.map (Ar.d e)) ak.length 0 .u [b,.row 0 2 (List.replicate ak.length zIt)]) ⟨_,rfl,rfl,by simp,rfl,(cu.one hb).add (cu.one (acb ..))⟩
 subst h2;rw[qo,Qv1,show ak.map (fun x=>xD x)=ak.map xD from rfl]at g1;exact⟨L,h1,g0,g1,g2⟩
theorem rf (kk:Int)(ps:List Int)(sy st:Int)(aM:List α)(fin:List D)(ak:List (Ar α))(hn:aM.length<=1000000)(h3:ak.length<=1000000)(hc:∀ x ∈ aM,Ca E1 1104 [.d (bA kk ps),.d (e x).d] (.d (.v (.bool (fo x))),none))
  (hin:∀ a ∈ ak,(0<=a.f/\a.f<aM.length)/\(0<=a.t/\a.t<aM.length)) (B:List ae) (hB:iI B) :
  ∃ X i N,cu X/\X[i]?=some (.row 0 1 (BDt (sN (DC fo aM) (dM ak))))/\∀ m,CL E1 (N+m) 3507 [.d (qW kk ps sy st ((aM.map e).map W.d) fin (ak.map (Ar.d e)))] B=some (.ls (.old (B.length+i)) 0 1 0 aM.length,some (B++X)):=by
 obtain⟨bx,hbx⟩:∃ bx,bx=aD kk ps sy st ((aM.map e).map W.d) fin (ak.map (Ar.d e)):=⟨_,rfl⟩
 have hbo:Dat bx:=by rw[hbx];exact ab' [.v (.int .i64 kk),.s 1 (LK .i64 ps),.v (.int .i64 sy),.v (.int .i64 st),.s 8 _,.s 8 _,.s 11 _]
 obtain⟨L,h1,g0,g1,g2⟩:=aed (e:=e) B ak h3 bx hbo;obtain⟨e1,e2⟩:=afK hin;rw[e1]at g1;obtain⟨X,i,N1,x1,x2,x3,t1⟩:=acJ (kk:=kk) (ps:=ps) (fo:=fo) aM hn hc (B++L) (hB.add g2.aaZ);obtain⟨i',rfl⟩:∃ i',i=B.length+i':=⟨i-B.length,by rw[Qb0]at x2;omega⟩
 have hi':L.length<=i':=by rw[Qb0]at x2;omega
 have l1:1<L.length:=(bD g1)
 have y1:(L++X)[1]?=some (.row 0 2 (SD (dM ak))):=by rw[Qa0 l1];exact g1
 have y0:(L++X)[0]?=some bx:=by rw[Qa0 (by omega)];exact g0
 rw[Qm0,Qb1 (by omega),Xb0]at x3;have hD:cu (L++X):=g2.add x1;have hM:iI (L++X):=hD.aaZ;obtain⟨r,N2,hs,t2⟩:=aa0 (B.length+i') (B.length+1) aM.length ak.length (B++(L++X)) (hB.add hM) hn h3 (by omega) (dM ak) (by rw[Qb1 (by omega),Xb0];exact y1) (by simp[dM]) e2 (DC fo aM) (by simp[DC]) (by rw[Qb1 (by omega),Xb0];exact x3);rw[Qm0]at t1;have o1:List.map (ae.aA B.length) B=B:=hB _;have o2:List.map (ae.aA B.length) L=L:=g2.aaZ _;have o3:List.map (ae.aA B.length) (L++X)=L++X:=hM _;have n1:(ak.length:Int)*16<=(most:Int):=by unfold most;omega
 have n2:(ak.length:Int)<=(most:Int):=by unfold most;omega
 have n0:(0:Int)<=(ak.length:Int):=by omega
 have hel:(ak.map (Ar.d e)).length=ak.length:=by simp
 have sA:Ex E1 f3507.body.l {vars:=[.d (qW kk ps sy st ((aM.map e).map W.d) fin (ak.map (Ar.d e))),.u,.u,.u,.u,.u,.u,.u,.u,.u,.u],base:=B,loc:=[],aP:=false}
   (.norm,{vars:=[.u,.r (.loc 0) 0,.u,.u,.u,.u,.u,.u,.u,.u,.u],base:=B,loc:=[bx],aP:=false}):=by
  refine Ex.of (n:=60) ?_;rw[hbx];unfold qW aD;simp -implicitDefEqProofs[f3507]
 have sB:Ex E1 f3507.body.r.l {vars:=[.u,.r (.loc 0) 0,.u,.u,.u,.u,.u,.u,.u,.u,.u],base:=B,loc:=[bx],aP:=false}
   (.norm,{vars:=[.u,.r (.loc 0) 0,.u,.ls (.loc 1) 0 2 0 ak.length,.u,.u,.u,.u,.u,.u,.u],base:=B,loc:=[bx,.row 0 2 (List.replicate ak.length zIt)],aP:=false}):=by
  refine Ex.of (n:=60) ?_;clear h1 t1 t2 g0 y0;rw[hbx];unfold aD zIt;have n3:ak.length<=most:=by omega
  have n4:ak.length*16<=most:=by omega
  generalize ak.map (Ar.d e)=x3 at*;simp -implicitDefEqProofs[f3507,hel,n3,n1]
 have sC:Ex E1 f3507.body.r.r.l.l {vars:=[.u,.r (.loc 0) 0,.u,.ls (.loc 1) 0 2 0 ak.length,.u,.u,.u,.u,.u,.u,.u],base:=B,loc:=[bx,.row 0 2 (List.replicate ak.length zIt)],aP:=false}
   (.norm,eD B (ak.map (Ar.d e)) ak.length 0 .u [bx,.row 0 2 (List.replicate ak.length zIt)]):=by
  refine Ex.of (n:=60) ?_;clear h1 t1 t2 g0 y0;rw[hbx];unfold aD eD;generalize List.replicate ak.length zIt=x4,ak.map (Ar.d e)=x3 at*;simp -implicitDefEqProofs[f3507,hel]
 have sD:Ex E1 f3507.body.r.r.r.l (eD B (ak.map (Ar.d e)) ak.length ak.length (.d (.v (.bool false))) L)
   (.norm,{vars:=[.u,.u,.u,.ls (.loc 1) 0 2 0 ak.length,.u,.u,.ls (.loc i') 0 1 0 aM.length,.u,.u,.u,.u],base:=B,loc:=L++X,aP:=decide (0<B.length)}):=by
  refine Ex.of (n:=N1+100) ?_;clear h1 t2 sA sB sC hs y0 x3;rw[hbx]at g0;unfold aD bA at*;unfold eD;generalize ak.map (Ar.d e)=x3,(aM.map e).map W.d=x4,LK .i64 ps=l9 at*;have i0:=idx g0;have l0:0<L.length:=by omega
  simp -implicitDefEqProofs[f3507,t1,g0,i0,l0,o1,o2,Bb,FV.aA,FV.aR]
 have sE:∃ M',Ex E1 f3507.body.r.r.r.r.l {vars:=[.u,.u,.u,.ls (.loc 1) 0 2 0 ak.length,.u,.u,.ls (.loc i') 0 1 0 aM.length,.u,.u,.u,.u],base:=B,loc:=L++X,aP:=decide (0<B.length)}
   (.norm,{vars:=[.u,.u,.u,.u,.u,.u,.ls (.loc i') 0 1 0 aM.length,.u,.u,.u,.u],base:=B,loc:=M',aP:=decide (0<B.length)})/\cu M'/\M'[i']?=some (.row 0 1 (BDt (sN (DC fo aM) (dM ak)))):=by
  clear h1 t1 sA sB sC sD g0 g1 y0 o2;have hil:i'<(L++X).length:=(bD x3)
  generalize L++X=M at*;rcases hs with ⟨rfl,hs⟩|⟨L2,hL2,rfl⟩
  ·refine⟨M,Ex.of (n:=N2+100) ?_,hD,by rw[hs];exact x3⟩;simp -implicitDefEqProofs[f3507,t2,o1,o3,Bb,FV.aA,FV.aR,uC]
  ·rw[Qw0 _ _ (by omega),Xb0,Qm0]at t2;refine⟨M.set i' (.row 0 1 (BDt (sN (DC fo aM) (dM ak))))++L2,Ex.of (n:=N2+100) ?_,(hD.put i' (acb ..)).add hL2,by rw[Qa0 (by simpa using hil),Qe0 hil]⟩;generalize M.set i' (.row 0 1 (BDt (sN (DC fo aM) (dM ak))))++L2=M2 at*;simp -implicitDefEqProofs[f3507,t2,o1,o3,Bb,FV.aA,FV.aR,uC]
 obtain⟨M',sE,m1,m2⟩:=sE;have sF:Ex E1 f3507.body.r.r.r.r.r {vars:=[.u,.u,.u,.u,.u,.u,.ls (.loc i') 0 1 0 aM.length,.u,.u,.u,.u],base:=B,loc:=M',aP:=decide (0<B.length)} (.ret,{vars:=[.u,.u,.ls (.loc i') 0 1 0 aM.length,.u,.u,.u,.u,.u,.u,.u,.u],base:=B,loc:=M',aP:=decide (0<B.length)}):=by
  refine Ex.of (n:=60) ?_;simp -implicitDefEqProofs[f3507]
 obtain⟨N,t⟩:=p8 (E:=E1) (g:=3507) (B:=B) (args:=[.d (qW kk ps sy st ((aM.map e).map W.d) fin (ak.map (Ar.d e)))]) rfl (k3507:E1.fn _=_) rfl (sA.seq (sB.seq (Ex.seq (sC.seq (Ex.block h1)) (sD.seq (sE.seq sF))))) (by simp) (r:=(.ls (.old (B.length+i')) 0 1 0 aM.length,some (B++M'))) (by
  have o4:List.map (ae.aA B.length) M'=M':=m1.aaZ _;simp[finish,fZ,show f3507.res=[.var 2] from rfl,show f3507.ref=true from rfl,o1,o4,FV.aA])
 exact⟨M',i',N,m1,m2,t⟩
end Fi.S
noncomputable section
namespace Fi.S
open Go Fi
set_option maxHeartbeats 8000000
set_option maxRecDepth 10000
variable {α:Type} {e:α->W} {fo:α->Bool} {kk:Int} {ps:List Int}
def qp (l m:List Bool)(j:Nat):List Bool:=List.zipWith and (l.take j) (m.take j)++l.drop j
theorem adl {l m:List Bool}(h:l.length=m.length)(j:Nat):(qp l m j).length=l.length:=by
 unfold qp;rw[Qb0,Xj0,Qn1,Qn1,Q90];omega
theorem aee {l m:List Bool}(h:l.length=m.length){j:Nat}{b:Bool}(hb:l[j]?=some b):(qp l m j)[j]?=some b:=by
 have hj:=(bD hb)
 unfold qp;rw[Qb1 (by rw[Xj0,Qn1,Qn1];omega),Qx0,Xj0,Qn1,Qn1,show j+(j-min (min j l.length) (min j m.length))=j by omega];exact hb
theorem aa9 {l m:List Bool}(h:l.length=m.length){j:Nat}{b c:Bool}(hb:l[j]?=some b)(hc:m[j]?=some c):(qp l m j).set j (b&&c)=qp l m (j+1):=by
 obtain⟨hj,hb'⟩:=Qr0.1 hb;obtain⟨hj2,hc'⟩:=Qr0.1 hc;have hz:(List.zipWith and (l.take j) (m.take j)).length=j:=by rw[Xj0,Qn1,Qn1];omega
 unfold qp;rw[Qw0 _ _ (by omega),hz,Q30,Qj2 hj,List.set_cons_zero,Ql1 hj,Ql1 hj2,List.zipWith_append (by rw[Qn1,Qn1];omega),hb',hc',Qm0];rfl
theorem afL (l m:List Bool):qp l m 0=l:=by simp[qp]
theorem adn {l m:List Bool}(h:l.length=m.length):qp l m l.length=List.zipWith and l m:=by
 unfold qp;rw[Qv0,Q01,Qo2,Qe2 (by omega)]
def Q0:aG:=f1506.body.r.r.r.r.l.r.bl.lp
def fT (io ib n j:Nat)(t:FV)(L:List ae):St :=
 (st0 [.u,.u,.u,.u,.u,.u,.ls (.loc io) 0 1 0 n,.ls (.loc ib) 0 1 0 n,.u,.u,.d (.v (.int .i64 n)),.d (.v (.int .i64 j)),t] L)
theorem adp (io ib n j:Nat)(hn:n<=1000000)(hj:j<n)(hne:io≠ib)(L:List ae)(R K:List Bool)(hR:R.length=n)(h1:L[io]?=some (.row 0 1 (BDt R)))(h2:L[ib]?=some (.row 0 1 (BDt K)))(b c:Bool)(hb:R[j]?=some b)(hc:K[j]?=some c) :
  Ex E1 Q0 (fT io ib n j .u L) (.norm,fT io ib n (j+1) .u (L.set io (.row 0 1 (BDt (R.set j (b&&c)))))):=by
 have hj0:(0:Int)<=(j:Int):=by omega
 have hjn:(j:Int)<(n:Int):=by omega
 have bz:ah .i64 ((j:Int)+1)=(j:Int)+1:=wrap_i64 (by omega);have hk1:((j+1:Nat):Int)=(j:Int)+1:=by omega
 have e1:=tq hb;have e2:=tq hc;have l1:io<L.length:=(bD h1)
 have l2:ib<L.length:=(bD h2)
 have i1:=idx h1;have i2:=idx h2;have i3:=idx e1;have i4:=idx e2;have hj1:j<(BDt R).length:=(bD e1)
 have hj2:j<(BDt K).length:=(bD e2)
 refine Ex.of (n:=200) ?_;unfold fT;rw[hk1,<-acd];cases b<;>cases c<;>simp -implicitDefEqProofs[Q0,f1506,hj0,hjn,bz,e1,e2,l1,l2,i1,i2,i3,i4,h1,h2,hj1,hj2]
theorem aef (io ib n:Nat)(hn:n<=1000000)(hne:io≠ib)(L:List ae)(O K:List Bool)(hO:O.length=n)(hK:K.length=n)(h1:L[io]?=some (.row 0 1 (BDt O)))(h2:L[ib]?=some (.row 0 1 (BDt K))) :
  ∃ L',Ex E1 (.loop Q0) (fT io ib n 0 .u L) (.exit 0,fT io ib n n (.d (.v (.bool false))) L')/\L'[io]?=some (.row 0 1 (BDt (List.zipWith and O K))):=by
 obtain⟨r,h3,L',h4,h5⟩:=Ex.inv (E:=E1) (b:=Q0) (fun a:Nat × List ae=>fT io ib n a.1 .u a.2) (fun a=>n-a.1)
  (fun a=>a.1<=n/\a.2[io]?=some (.row 0 1 (BDt (qp O K a.1)))/\a.2[ib]?=some (.row 0 1 (BDt K)))
  (fun r=>∃ L',r=(.exit 0,fT io ib n n (.d (.v (.bool false))) L')/\L'[io]?=some (.row 0 1 (BDt (List.zipWith and O K)))) (fun a ⟨g0,g1,g2⟩=>by
   obtain⟨j,L⟩:=a;simp only at g0 g1 g2 ⊢;rcases Qg2 j n with h|h
   ·have b1:O[j]?=some (O[j]'(by omega)):=Qa1 (by omega);have b2:K[j]?=some (K[j]'(by omega)):=Qa1 (by omega);have k:=adp io ib n j hn h hne L (qp O K j) K (by rw[adl (by omega)];exact hO) g1 g2 _ _ (aee (by omega) b1) b2;rw[aa9 (by omega) b1 b2]at k;refine .inl ⟨(j+1,_),k,by simp only;omega,by simp only;omega,?_,?_⟩
    ·exact Qe0 (bD g1)
    ·simp only;rw[Qc1 hne];exact g2
   ·obtain rfl:j=n:=by omega
    refine .inr ⟨_,Ex.of (n:=60) (r:=(.exit 0,fT io ib j j (.d (.v (.bool false))) L)) ?_,by simp,L,rfl,?_⟩
    ·unfold fT;simp -implicitDefEqProofs[Q0,f1506]
    ·rw[<-hO,adn (by omega)]at g1;exact g1) (0,L) ⟨Qz2 _,by rw[afL];exact h1,h2⟩
 subst h4;exact⟨L',h3,h5⟩
theorem abw (sy st:Int)(aM fin:List α)(ak:List (Ar α))(hn:aM.length<=1000000)(hf:fin.length=aM.length)(h3:ak.length<=100000)(hc:∀ x ∈ aM,Ca E1 1104 [.d (bA kk ps),.d (e x).d] (.d (.v (.bool (fo x))),none))(hd:∀ x ∈ fin,Ca E1 1104 [.d (bA kk ps),.d (e x).d] (.d (.v (.bool (fo x))),none))
  (hin:∀ a ∈ ak,(0<=a.f/\a.f<aM.length)/\(0<=a.t/\a.t<aM.length)) (A:D) (hA:∃ a b c d f g h,A=qW a b c d f g h) (hN:Ca E1 1024 [.d A] (.d (.t [uP kk ps sy st (aM.map e) (fin.map e) e ak,.v (.int .i64 0)]),none)) :
  Ca E1 1506 [.d A] (.d (.t [.s 1 (BDt (eH fo aM fin ak)),.v (.int .i64 0)]),none):=by
 obtain⟨N1,t1⟩:=hN.get;obtain⟨N2,t2⟩:=(aa1 (e:=e) kk ps sy st ((aM.map e).map W.d) ((fin.map e).map W.d) ak h3).get;obtain⟨nb,hnb⟩:∃ nb,nb=aD kk ps sy st ((aM.map e).map W.d) ((fin.map e).map W.d) (ak.map (Ar.d e)):=⟨_,rfl⟩
 obtain⟨qa,qb,qc,qd,qf,qg,qh,rfl⟩:=hA;obtain⟨ab,hab⟩:∃ ab,ab=aD qa qb qc qd qf qg qh:=⟨_,rfl⟩
 obtain⟨X,i,N3,x1,x2,t3⟩:=rf (e:=e) (fo:=fo) kk ps sy st aM ((fin.map e).map W.d) ak hn (by omega) hc hin [] (fun _=>rfl);obtain⟨Y,i',N4,y1,y2,t4⟩:=rf (e:=e) (fo:=fo) kk ps sy st fin ((aM.map e).map W.d) (ak.map Ar.turn) (by omega) (by simpa using(by omega:ak.length<=1000000)) hd (fun a ha=>by
  obtain⟨b,hb,rfl⟩:=Qh2.1 ha;obtain⟨h1,h2⟩:=hin b hb;rw[hf];exact⟨h2,h1⟩) [] (fun _=>rfl)
 rw[Qq0,Qy1,Qv1]at t3 t4;rw[acU]at y2;have hil:i<X.length:=(bD x2)
 have il2:i'<Y.length:=(bD y2)
 have lo:(sN (DC fo aM) (dM ak)).length=aM.length:=by rw[pV];simp[DC]
 have lb:(sN (DC fo fin) (VV ak)).length=aM.length:=by rw[pV];simp[DC,hf]
 obtain⟨L',h1,h2⟩:=aef (2+i) (X.length+1+1+i') aM.length hn (by omega) ([ab,nb]++(X++Y)) _ _ lo lb (by rw[Qb1 (by simp),show 2+i-[ab,nb].length=i by simp,Qa0 hil];exact x2) (by rw[Qb1 (by simp;omega),show X.length+1+1+i'-[ab,nb].length=X.length+i' by simp;omega,Qb1 (by omega),Xb0];exact y2);have hu:(BDt (eH fo aM fin ak)).length=aM.length:=by rw[iq,vB _ hf.symm]
 change L'[2+i]?=some (.row 0 1 (BDt (eH fo aM fin ak))) at h2
 generalize eH fo aM fin ak=us at*;rw[hf]at t4;have oX:∀ m,List.map (ae.shift m) X=X:=x1.shift;have oY:∀ m,List.map (ae.shift m) Y=Y:=y1.shift;have sA:Ex E1 f1506.body.l (st0 [.d (qW qa qb qc qd qf qg qh),.u,.u,.u,.u,.u,.u,.u,.u,.u,.u,.u,.u] []) (.norm,(st0 [.u,.r (.loc 0) 0,.u,.u,.u,.u,.u,.u,.u,.u,.u,.u,.u] [ab])):=by
  refine Ex.of (n:=60) ?_;rw[hab];unfold qW aD;simp -implicitDefEqProofs[f1506]
 have sB:Ex E1 f1506.body.r.l (st0 [.u,.r (.loc 0) 0,.u,.u,.u,.u,.u,.u,.u,.u,.u,.u,.u] [ab]) (.norm,(st0 [.u,.u,.u,.u,.r (.loc 1) 0,.d (.v (.int .i64 0)),.u,.u,.u,.u,.u,.u,.u] [ab,nb])):=by
  refine Ex.of (n:=N1+60) ?_;clear h1 h2 t2 t3 t4 sA x1 y1 x2 y2 oX oY;rw[hab,hnb];unfold uP qW aD at*;generalize LK .i64 qb=l8,LK .i64 ps=l9,ak.map (Ar.d e)=x3,(aM.map e).map W.d=x1,(fin.map e).map W.d=x2 at*;simp -implicitDefEqProofs[f1506,t1]
 have sC:Ex E1 f1506.body.r.r.l (st0 [.u,.u,.u,.u,.r (.loc 1) 0,.d (.v (.int .i64 0)),.u,.u,.u,.u,.u,.u,.u] [ab,nb]) (.norm,(st0 [.u,.u,.u,.u,.r (.loc 1) 0,.d (.v (.int .i64 0)),.u,.u,.u,.d (.v (.bool false)),.u,.u,.u] [ab,nb])):=by
  refine Ex.of (n:=60) ?_;simp -implicitDefEqProofs[f1506]
 have sD:Ex E1 f1506.body.r.r.r.l (st0 [.u,.u,.u,.u,.r (.loc 1) 0,.d (.v (.int .i64 0)),.u,.u,.u,.d (.v (.bool false)),.u,.u,.u] [ab,nb])
   (.norm,(st0 [.u,.u,.u,.u,.u,.u,.ls (.loc (2+i)) 0 1 0 aM.length,.ls (.loc (X.length+1+1+i')) 0 1 0 aM.length,.u,.u,.u,.u,.u] ([ab,nb]++(X++Y)))):=by
  refine Ex.of (n:=N2+N3+N4+100) ?_;replace t2:=fun k=>eP (t2 0) (show N2+0<=N2+N3+N4+k by omega)
  replace t3:=fun k=>eP (t3 0) (show N3+0<=N2+N3+N4+k by omega)
  replace t4:=fun k=>eP (t4 0) (show N4+0<=N2+N3+N4+k by omega)
  clear h1 h2 t1 sA sB sC x1 y1 x2 y2 hN hc hd;simp only[hnb]at*;unfold qW aD at*;generalize LK .i64 ps=l9,(ak.map Ar.turn).map (Ar.d e)=x4,ak.map (Ar.d e)=x3,(aM.map e).map W.d=x1,(fin.map e).map W.d=x2 at*;simp -implicitDefEqProofs[f1506,t2,t3,t4,oX,oY,FV.shift]
 have sE:Ex E1 f1506.body.r.r.r.r.l.l (st0 [.u,.u,.u,.u,.u,.u,.ls (.loc (2+i)) 0 1 0 aM.length,.ls (.loc (X.length+1+1+i')) 0 1 0 aM.length,.u,.u,.u,.u,.u] ([ab,nb]++(X++Y)))
   (.norm,fT (2+i) (X.length+1+1+i') aM.length 0 .u ([ab,nb]++(X++Y))):=by
  refine Ex.of (n:=60) ?_;unfold fT;rw[show((0:Nat):Int)=0 from rfl];simp -implicitDefEqProofs[f1506]
 have sF:∃ st',Ex E1 f1506.body.r.r.r.r.r (fT (2+i) (X.length+1+1+i') aM.length aM.length (.d (.v (.bool false))) L') (.ret,st')/\finish f1506 st'=some (.d (.t [.s 1 (BDt us),.v (.int .i64 0)]),none):=by
  clear h1 t1 t2 t3 t4 sA sB sC sD sE x1 y1 x2 y2;have il:2+i<L'.length:=(bD h2)
  have i2:=idx h2;have tk:(BDt us).take aM.length=BDt us:=by rw[<-hu,Qo2]
  generalize 2+i=k,BDt us=bs at*;refine⟨_,Ex.of (n:=100) (by unfold fT;simp -implicitDefEqProofs[f1506];rfl),?_⟩;simp[finish,show f1506.res=[.var 2,.var 3] from rfl,show f1506.ref=false from rfl,h2,i2,il,hu,tk,ae.view,uC]
 obtain⟨st',e1,e2⟩:=sF;exact Ca.body (o:=.ret) rfl (k1506:E1.fn _=_) rfl (sA.seq (sB.seq (sC.seq (sD.seq (Ex.seq (sE.seq (Ex.block h1)) e1))))) (by simp) e2
end Fi.S
