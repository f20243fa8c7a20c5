import Derived.Test.YtgngjdakilfmoaaGreatDoorDB
set_option linter.unusedVariables false
set_option linter.unusedSimpArgs false
noncomputable section
namespace Fi.S
open Go Fi
inductive Rch (m:List Bool)(st:List (Nat × Nat)):Nat->Prop
 | base {s:Nat} (h:m[s]?=some true):Rch m st s
 | step {p q:Nat} (h:(p,q) ∈ st) (g:Rch m st p):Rch m st q
theorem Rch.mono {m m':List Bool}{st st':List (Nat × Nat)}(h1:∀ s:Nat,m[s]?=some true->m'[s]?=some true)(h2:∀ x ∈ st,x ∈ st'){s:Nat}(h:Rch m st s):Rch m' st' s:=by
 induction h with
 | base h=>exact .base (h1 _ h)
 | step h _ ih=>exact .step (h2 _ h) ih
def sp1 (m:List Bool)(e:Nat × Nat):List Bool:=if m[e.1]?=some true then m.set e.2 true else m
def chg (m:List Bool)(e:Nat × Nat):Bool:=m.getD e.1 false && !m.getD e.2 false
theorem Gp {m:List Bool}{i:Nat}:m.getD i false=true↔m[i]?=some true:=by
 rw[Qj0];cases h:m[i]? with
 | none=>simp
 | some b=>simp
theorem aby (m:List Bool)(e:Nat × Nat):(sp1 m e).length=m.length:=by unfold sp1;split<;>simp
theorem Xz {m:List Bool}{i s:Nat}(h:(m.set i true)[s]?=some true):s=i\/m[s]?=some true:=by
 by_cases hs:i=s
 ·exact .inl hs.symm
 ·rw[Qb2 hs]at h;exact .inr h
structure Sp (m0:List Bool)(st:List (Nat × Nat))(m:List Bool):Prop where
 len:m.length=m0.length
 le:∀ s:Nat,m0[s]?=some true->m[s]?=some true
 ok:∀ s:Nat,m[s]?=some true->Rch m0 st s
theorem Sp.refl (m:List Bool)(st:List (Nat × Nat)):Sp m st m:=⟨rfl,fun _ h=>h,fun _ h=>.base h⟩
theorem Sp.one {m0 m:List Bool}{st:List (Nat × Nat)}(h:Sp m0 st m){e:Nat × Nat}(he:e ∈ st):Sp m0 st (sp1 m e):=by
 refine⟨by rw[aby,h.len],fun s hs => ?_,fun s hs => ?_⟩
 ·have:=h.le s hs;unfold sp1;split
  ·by_cases h2:e.2=s
   ·have hl:e.2<m.length:=by rw[h2];exact(aT this)
    rw[<-h2,Qd1 hl]
   ·rw[Qb2 h2];exact this
  ·exact this
 ·unfold sp1 at hs;split at hs
  ·rename_i h1;rcases Xz hs with rfl|g
   ·exact .step he (h.ok _ h1)
   ·exact h.ok _ g
  ·exact h.ok _ hs
noncomputable def spr (m:List Bool) (st:List (Nat × Nat)):List Bool:=(List.range m.length).map fun s=>@decide (Rch m st s) (Classical.propDecidable _)
theorem abz (m:List Bool)(st:List (Nat × Nat)):(spr m st).length=m.length:=by simp[spr]
theorem abA {m:List Bool}{st:List (Nat × Nat)}{s:Nat}:(spr m st)[s]?=some true↔s<m.length/\Rch m st s:=by
 unfold spr;rw[Qb1]
 by_cases h:s<m.length
 ·rw[Xs0 h];simp[h]
 ·rw[Qp1 (by simpa using h)];simp[h]
theorem XA {l m:List Bool}(hl:l.length=m.length)(h:∀ s:Nat,l[s]?=some true↔m[s]?=some true):l=m:=by
 refine Xp1 fun s => ?_
 by_cases hs:s<l.length
 ·have g1:l[s]?=some l[s]:=Qa1 hs;have g2:m[s]?=some (m[s]'(by omega)):=Qa1 ae;have:=h s;rw[g1,g2]at this ⊢;cases h1:l[s]<;>cases h2:m[s]'(by omega)<;>simp_all
 ·rw[Qp1 ae,Qp1 ae]
theorem Sp.done {m0 m:List Bool}{st:List (Nat × Nat)}(h:Sp m0 st m)(hc:∀ e ∈ st,chg m e=false):m=spr m0 st:=by
 refine XA (by rw[h.len,abz]) fun s => ?_
 rw[abA];constructor
 ·intro g;exact⟨by rw[<-h.len];exact(aT g),h.ok s g⟩
 ·rintro⟨-,g⟩
  induction g with
  | base g=>exact h.le _ g
  | @step p q he _ ih =>
   have:=hc _ he;unfold chg at this;rw[Gp.2 ih,Qs1]at this;exact Gp.1 (by simpa using this)
def pass (st:List (Nat × Nat))(m:List Bool):List Bool:=st.foldl sp1 m
def passes (st:List (Nat × Nat)):Nat->List Bool->List Bool
 | 0,m=>m
 | k+1,m=>pass st (passes st k m)
end Fi.S
noncomputable section
namespace Fi.S
open Go Fi
set_option maxHeartbeats 8000000
section
variable {α:Type}
variable {P:α->Prop} {pl tm:α->α->α} {z o:α}
end
theorem NU {k:Int}(h:k=2\/k=3\/k=4){S M:Nat}{x:Sv}(hx:x.of k S M):dn k x x=x:=by
 rcases h with rfl|rfl|rfl
 ·obtain⟨i,n,rfl,_⟩:=tC hx;rw[RA,ite_self]
 ·obtain⟨q,rfl,_⟩:=tF hx;rw[Y9,ite_self]
 ·obtain⟨u,rfl,hu⟩:=yJ hx;rw[pl4,zh,BitVec.or_self,Wq hu]
theorem NV {k:Int}(h:k=2\/k=3\/k=4){x:List Sv}(hx:Ba (dG k []) x):bT (dG k []) x x=x:=by
 have e:dG k []=[k]:=by unfold dG;rw[if_neg ae]
 rw[e]at hx ⊢;obtain⟨S,M,_,_,h1,h2⟩:=hx;cases x with
 | nil=>cases h1
 | cons y r =>
  cases r with
  | cons _ _=>simp at h1
  | nil =>
   have:=NU h (h2 0 k y rfl rfl);show [dn k y y]=_;rw[this]
end Fi.S
noncomputable section
namespace Fi.S
open Go Fi
set_option maxHeartbeats 8000000
set_option maxRecDepth 10000
def Dat (o:ah):Prop:=(∃ cs:List D,o=.box (cs.map .d))\/∃ v s es,o=.row v s es
def zG (X:List ah):Prop:=∀ o ∈ X,Dat o
theorem zG.nil:zG []:=fun o h=>by cases h
theorem zG.one {o:ah}(h:Dat o):zG [o]:=fun x hx=>by rw[Qx0.1 hx];exact h
theorem zG.add {X Y:List ah}(h:zG X)(k:zG Y):zG (X++Y):=fun o ho=>(Qw0.1 ho).elim (h o) (k o)
theorem zG.put {X:List ah}(h:zG X)(i:Nat){o:ah}(k:Dat o):zG (X.set i o):=fun x hx=>by
 rcases Q41 hx with g|rfl
 ·exact h x g
 ·exact k
theorem Gq (m:Nat):∀ cs:List D,FV.gD m (cs.map .d)=cs.map .d
 | []=>rfl
 | c::cs=>by
  show FV.shift m (.d c)::FV.gD m (cs.map .d)=_;rw[Gq m cs];rfl
theorem zG.shift {X:List ah}(h:zG X)(m:Nat):X.map (ah.shift m)=X:=by
 refine(Xk2 fun o ho => ?_).trans (List.map_id X);rcases h o ho with ⟨cs,rfl⟩|⟨v,s,es,rfl⟩
 ·show ah.box (FV.gD m (cs.map .d))=_;rw[Gq];rfl
 ·rfl
theorem zH {β γ:Type}(g:β->γ):∀ (l:List β) (p:List γ),l.foldl (fun aq a=>aq++[g a]) p=p++l.map g
 | [],p=>by simp
 | x::l,p=>by rw[Ql1,zH g l,Qe2,Qm2];rfl
variable {α:Type} {e:α->W} {dS:α->Bool} {kk:Int} {ps:List Int}
end Fi.S
noncomputable section
namespace Fi.S
open Go Fi
set_option maxHeartbeats 8000000
set_option maxRecDepth 10000
end Fi.S
noncomputable section
namespace Fi.S
open Go Fi
set_option maxHeartbeats 8000000
set_option maxRecDepth 10000
variable {α:Type} {e:α->W}
def Ar.turn (a:Ar α):Ar α:=⟨a.t,a.l,a.f,a.x⟩
def Fj (px:FV)(L:List ah)(aq:List D):Prop:=(px=.d (.n 11)/\aq=[])\/∃ i av,3<=i/\px=.ls (.loc i) av 11 0 aq.length/\L[i]?=some (.row av 11 aq)
def dP (kk:Int)(ps:List Int)(sy st:Int)(bg fin:List D)(px:FV):ah:=.box [dI kk,.d (.s 1 (LK .i64 ps)),dI sy,dI st,.d (.s 8 bg),.d (.s 8 fin),px]
def tnL:aF:=f1508.body.r.r.r.l.r.bl.lp
def L9 (aJ:List D)(L:List ah)(j:Nat)(t:FV):St :=
 (st0 [.u,.u,rL 1,rL 2,.u,.d (.s 11 aJ),dI aJ.length,dI j,t] L)
theorem XB (kk:Int)(ps:List Int)(sy st:Int)(bg fin:List D)(aJ:List (Ar α))(h3:aJ.length<=1000000)(L:List ah)(px:FV)(aq:List D)(hlen:aq.length<=1000000)(h2:L[2]?=some (dP kk ps sy st bg fin px))(ho:Fj px L aq)
  (j:Nat) (a:Ar α) (ha:aJ[j]?=some a) :
  ∃ qM L',Ex E1 tnL (L9 (aJ.map (Ar.d e)) L j .u) (.norm,L9 (aJ.map (Ar.d e)) L' (j+1) .u)/\(∀ i,i<2->L'[i]?=L[i]?)/\L'[2]?=some (dP kk ps sy st bg fin qM)/\Fj qM L' (aq++[a.turn.d e]):=by
 have hj:j<aJ.length:=(aT ha)
 have hj0:(0:Int)<=(j:Int):=ae;have aW:ak .i64 ((j:Int)+1)=(j:Int)+1:=wrap_i64 ae;have hk1:((j+1:Nat):Int)=(j:Int)+1:=ae;have e1:(aJ.map (Ar.d e))[j]?=some (a.d e):=by simp[ha]
 have l2:2<L.length:=(aT h2)
 have m1:152<=most:=by unfold most;omega
 have m2:1<=most:=by unfold most;omega
 have m3:(aq.length+1)*152<=most:=by unfold most;omega
 have m4:aq.length+1<=most:=by unfold most;omega
 have sA:∀ b b':ah,(L++[b]).set L.length b'=L++[b']:=fun b b'=>by simp
 have hg:∀ b:ah,(L++[b])[L.length]?=some b:=fun b=>by simp
 have g2:∀ X,(L++X)[2]?=some (dP kk ps sy st bg fin px):=fun X=>by rw[Qa0 l2];exact h2
 have s2:∀ X r,(L++X).set 2 r=L.set 2 r++X:=fun X r=>Qq2 _ _ l2
 obtain⟨s,l1,l3,c,b,u',q,ps',ew,ed⟩:=a.iA e;have ed':a.turn.d e=rV a.t a.l a.f s l1 l3 c b u' q ps':=by
  obtain⟨f',l',t',x'⟩:=a;unfold Ar.turn Ar.d rV at*;simp only at ew;rw[ew];rfl
 rw[ed'];rw[ed]at e1;unfold rV at*;clear ew ed ed';rcases ho with ⟨rfl,rfl⟩|⟨i,av,h5,rfl,h7⟩
 ·refine⟨.ls (.loc (L.length+1)) 0 11 0 1,L.set 2 (dP kk ps sy st bg fin (.ls (.loc (L.length+1)) 0 11 0 1))++[.box [dI a.t,dI a.l,dI a.f,dB s,.d (.s 1 l1),.d (.s 1 l3),dI c,dB b,.d (.v (.int .u64 u')),.d (.s 6 q),.d (.s 8 ps')],.row 0 11 [.a [vI a.t,vI a.l,vI a.f,vB s,.s 1 l1,.s 1 l3,vI c,vB b,.v (.int .u64 u'),.s 6 q,.s 8 ps']]],?_,fun i hi => ?_,?_,.inr ⟨L.length+1,0,ae,rfl,?_⟩⟩
  ·refine Ex.of (n:=300) ?_;unfold L9 dP at*;rw[hk1];generalize LK .i64 ps=l9,aJ.map (Ar.d e)=x3 at*;have i1:=idx e1;have jJ:j<x3.length:=(aT e1)
   have hjl:(j:Int)<(x3.length:Int):=ae;have i2:=fun X=>idx (g2 X)
   simp[tnL,f1508,hj0,jJ,hjl,aW,e1,i1,i2,g2,h2,hg,sA,s2,l2,m1,m2]
  ·rw[Qa0 (by simp;omega),Qb2 ae]
  ·rw[Qa0 (by simpa using l2)];exact Qd1 l2
  ·rw[Qc0 aC];simp
 ·have hil:i<L.length:=(aT h7)
  refine⟨.ls (.loc i) (av+1) 11 0 (aq.length+1),(L.set i (.row (av+1) 11 (aq++[.a [vI a.t,vI a.l,vI a.f,vB s,.s 1 l1,.s 1 l3,vI c,vB b,.v (.int .u64 u'),.s 6 q,.s 8 ps']]))).set 2 (dP kk ps sy st bg fin (.ls (.loc i) (av+1) 11 0 (aq.length+1)))++[.box [dI a.t,dI a.l,dI a.f,dB s,.d (.s 1 l1),.d (.s 1 l3),dI c,dB b,.d (.v (.int .u64 u')),.d (.s 6 q),.d (.s 8 ps')]],?_,fun i' hi => ?_,?_,.inr ⟨i,av+1,h5,aC,?_⟩⟩
  ·refine Ex.of (n:=300) ?_;unfold L9 dP at*;rw[hk1];have hne:i≠2:=ae;have gi:∀ X,(L++X)[i]?=some (.row av 11 aq):=fun X=>by rw[Qa0 hil];exact h7
   have si:∀ X r,(L++X).set i r=L.set i r++X:=fun X r=>Qq2 _ _ hil
   have g2':∀ r X,(L.set i r++X)[2]?=some (.box [dI kk,.d (.s 1 (LK .i64 ps)),dI sy,dI st,.d (.s 8 bg),.d (.s 8 fin),.ls (.loc i) av 11 0 aq.length]):=fun r X=>by rw[Qa0 (by simpa using l2),Qb2 hne];exact h2
   have s2':∀ r X o,(L.set i r++X).set 2 o=(L.set i r).set 2 o++X:=fun r X o=>Qq2 _ _ (by simpa using l2)
   have tkr:aq.take aq.length=aq:=Qk0;generalize aJ.map (Ar.d e)=x3 at*;have i1:=idx e1;have jJ:j<x3.length:=(aT e1)
   have hjl:(j:Int)<(x3.length:Int):=ae;have i2:=fun X=>idx (g2 X)
   have i3:=fun X=>idx (gi X)
   have i4:∀ r X (h:2<(L.set i r++X).length),(L.set i r++X)[2]=_:=fun r X h=>idx (g2' r X) h
   simp[tnL,f1508,hj0,jJ,hjl,aW,e1,i1,i2,i3,i4,g2,g2',gi,h2,h7,hg,sA,s2,s2',si,l2,hil,tkr,m3,m4]
  ·rw[Qa0 (by simp;omega),Qb2 ae,Qb2 ae]
  ·rw[Qa0 (by simpa using l2)];exact Qd1 (by simpa using l2)
  ·rw[Qa0 (by simpa using hil),Qb2 ae];exact Qd1 hil
theorem abB (aJ:List D)(L:List ah):Ex E1 tnL (L9 aJ L aJ.length .u) (.exit 0,L9 aJ L aJ.length (dB false)):=by
 apply e6;unfold L9;simp[tnL,f1508]
theorem abC (kk:Int)(ps:List Int)(sy st:Int)(bg fin:List D)(aJ:List (Ar α))(h3:aJ.length<=100000)(L:List ah)(h2:L[2]?=some (dP kk ps sy st bg fin (.d (.n 11)))) :
  ∃ px L',Ex E1 (.loop tnL) (L9 (aJ.map (Ar.d e)) L 0 .u) (.exit 0,L9 (aJ.map (Ar.d e)) L' aJ.length (dB false))/\(∀ i,i<2->L'[i]?=L[i]?)/\L'[2]?=some (dP kk ps sy st bg fin px)/\Fj px L' ((aJ.map Ar.turn).map (Ar.d e)):=by
 obtain⟨r,h1,px,L',rfl,h4,h5,h6⟩:=Ex.fold (E:=E1) (b:=tnL) aJ (fun(aq:List D) a=>aq++[a.turn.d e]) []
  (fun j aq st'=>aq.length=j/\∃ px M,st'=L9 (aJ.map (Ar.d e)) M j .u/\(∀ i,i<2->M[i]?=L[i]?)/\M[2]?=some (dP kk ps sy st bg fin px)/\Fj px M aq)
  (fun aq r=>∃ px M,r=(.exit 0,L9 (aJ.map (Ar.d e)) M aJ.length (dB false))/\(∀ i,i<2->M[i]?=L[i]?)/\M[2]?=some (dP kk ps sy st bg fin px)/\Fj px M aq)
  (fun j a st' ha ⟨hlen,px,M,hst,q1,q2,q3⟩=>by
   subst hst;have hj:j<aJ.length:=(aT ha)
   obtain⟨qM,M',r1,r2,r3,r4⟩:=XB (e:=e) kk ps sy st bg fin aJ ae M px _ ae q2 q3 j a ha;exact⟨_,r1,by rw[Qb0,hlen];rfl,qM,M',rfl,fun i hi=>(r2 i hi).trans (q1 i hi),r3,r4⟩)
  (fun st' ⟨hlen,px,M,hst,q1,q2,q3⟩=>by
   subst hst;have n3:(aJ.map (Ar.d e)).length=aJ.length:=aC;have:=abB (aJ.map (Ar.d e)) M;rw[n3]at this;exact⟨_,this,aC,px,M,rfl,q1,q2,q3⟩)
  (st:=L9 (aJ.map (Ar.d e)) L 0 .u) ⟨rfl,.d (.n 11),L,rfl,fun i _=>rfl,h2,.inl ⟨rfl,rfl⟩⟩
 rw[zH,Qv2]at h6;refine⟨px,L',h1,h4,h5,?_⟩;rw[Q2];exact h6
theorem three {L:List ah}{a b c:ah}(h0:L[0]?=some a)(h1:L[1]?=some b)(h2:L[2]?=some c):∃ T,L=a::b::c::T:=by
 match L,h0,h1,h2 with
 | a'::b'::c'::T,h0,h1,h2 =>
  simp at h0 h1 h2;subst h0 h1 h2;exact⟨T,rfl⟩
 | [],h0,_,_=>simp at h0
 | [_],_,h1,_=>simp at h1
 | [_,_],_,_,h2=>simp at h2
theorem Sc (kk:Int)(ps:List Int)(sy st:Int)(bg fin:List D)(aJ:List (Ar α))(h3:aJ.length<=100000) :
  Ca E1 1508 [.d (jh kk ps sy st bg fin (aJ.map (Ar.d e)))] (.d (jh kk ps sy st fin bg ((aJ.map Ar.turn).map (Ar.d e))),none):=by
 obtain⟨bx,hbx⟩:∃ bx,bx=bu kk ps sy st bg fin (aJ.map (Ar.d e)):=⟨_,rfl⟩
 obtain⟨px,L,h1,k0,k2,ko⟩:=abC (e:=e) kk ps sy st fin bg aJ h3 [bx,qV,dP kk ps sy st fin bg (.d (.n 11))] rfl;obtain⟨T,rfl⟩:=three ((k0 0 ae).trans rfl) ((k0 1 ae).trans rfl) k2;have sA:Ex E1 f1508.body.l (st0 (.d (jh kk ps sy st bg fin (aJ.map (Ar.d e)))::zW) []) (.norm,(st0 (.u::rL 0::rL 1::uV) [bx,qV])):=by
  apply e6;rw[hbx];unfold jh bu qV;simp[f1508]
 have sB := nx sA f1508.body.r.l (st0 (.u::rL 0::rL 1::rL 2::n_) [bx,qV,bx]) (by
  apply e6;rw[hbx];unfold bu qV;simp[f1508])
 have sC := nx sB f1508.body.r.r.l (st0 (.u::rL 0::rL 1::rL 2::n_) [bx,qV,dP kk ps sy st fin bg (.d (.n 11))]) (by
  apply e6;rw[hbx];unfold bu qV dP;simp[f1508,checked,mJ,Dt,Ref.abs,mi,FV.target])
 have sD := nx sC f1508.body.r.r.r.l.l (L9 (aJ.map (Ar.d e)) [bx,qV,dP kk ps sy st fin bg (.d (.n 11))] 0 .u) (by
  apply e6;rw[hbx];unfold bu qV L9 dP;simp[f1508])
 have sE:∃ st',Ex E1 f1508.body.r.r.r.r (L9 (aJ.map (Ar.d e)) (bx::qV::dP kk ps sy st fin bg px::T) aJ.length (dB false)) (.ret,st')/\finish f1508 st'=some (.d (jh kk ps sy st fin bg ((aJ.map Ar.turn).map (Ar.d e))),none):=by
  clear h1 k0 k2 sA sB sC sD hbx;unfold L9 qV dP jh;generalize (aJ.map Ar.turn).map (Ar.d e)=q3,aJ.map (Ar.d e)=x3 at*;rcases ko with ⟨rfl,rfl⟩|⟨i,av,h5,rfl,h7⟩
  ·refine⟨_,Ex.of (n:=200) (by simp[f1508];rfl),?_⟩;simp[finish,show f1508.res=[.cell 2 true 7] from rfl,show f1508.ref=false from rfl]
  ·obtain⟨i',rfl⟩:∃ i',i=i'+3:=⟨i-3,ae⟩
   simp only[Xl1]at h7;have il:i'<T.length:=(aT h7)
   have i7:=idx h7;refine⟨_,Ex.of (n:=200) (by simp[f1508,h7,i7,il];rfl),?_⟩;simp[finish,show f1508.res=[.cell 2 true 7] from rfl,show f1508.ref=false from rfl,h7,i7,il,ah.view]
 obtain⟨st',e1,e2⟩:=sE;exact Ca.body (o:=.ret) rfl (aO 1508 f1508:E1.fn _=_) rfl (sA.seq (sB.seq (sC.seq (Ex.seq (sD.seq (Ex.block h1)) e1)))) aC e2
end Fi.S
noncomputable section
namespace Fi.S
open Go Fi
set_option maxHeartbeats 8000000
set_option maxRecDepth 10000
variable {α:Type} {e:α->W} {dS:α->Bool}
end Fi.S
noncomputable section
namespace Fi.S
open Go Fi
set_option maxHeartbeats 8000000
set_option maxRecDepth 10000
variable {α:Type} {e:α->W} {dS:α->Bool} {kk:Int} {ps:List Int}
end Fi.S
