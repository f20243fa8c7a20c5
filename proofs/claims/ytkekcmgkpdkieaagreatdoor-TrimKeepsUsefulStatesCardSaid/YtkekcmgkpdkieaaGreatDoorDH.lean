import Derived.Test.YtkekcmgkpdkieaaGreatDoorDG
import Derived.Test.YtkekcmgkpdkieaaGreatDoorDC
set_option linter.unusedVariables false
set_option linter.unusedSimpArgs false
noncomputable section
namespace Fi.S
open Go Fi
set_option maxHeartbeats 8000000
set_option maxRecDepth 10000
def UT:aF:=f1526.body.r.r.l.r.bl.lp
def vsI:aF:=f1526.body.r.r.l.r.bl.lp.r.l.bl.r.bl.lp
def zS (n:Nat)(st:List (Nat × Nat))(m:List Bool)(v3 v4 v5 v6:FV):St :=
 (st0 [.ls (.loc 0) 0 1 0 n,.d (.s 2 (SD st)),.u,v3,v4,v5,v6,.u] [.row 0 1 (aW m)])
theorem UU (n k:Nat)(hn:n<=1000000)(hk:k<=1000000)(st:List (Nat × Nat))(hst:st.length=k)(m:List Bool)(hm:m.length=n)(v3:FV)(j p q:Nat)(hj:st[j]?=some (p,q))(b:Bool)(h1:m[p]?=some b)(hq:q<n) :
  Ex E1 vsI (zS n st m v3 (dI j) .u .u) (.norm,zS n st (if b then m.set q true else m) v3 (dI (j+1:Nat)) .u .u):=by
 have hjk:j<st.length:=(aS hj)
 have hj0:(0:Int)<=(j:Int):=ae;have aP:av .i64 ((j:Int)+1)=(j:Int)+1:=wrap_i64 ae;have hk1:((j+1:Nat):Int)=(j:Int)+1:=ae;have hp:p<m.length:=(aS h1)
 have hp0:(0:Int)<=(p:Int):=ae;have hq0:(0:Int)<=(q:Int):=ae;have hpn:(p:Int)<(n:Int):=ae;have hqn:(q:Int)<(n:Int):=ae;have e1:=Uu hj;have e2:=kZ h1;have dw:j<(SD st).length:=(aS e1)
 have hjl:(j:Int)<((SD st).length:Int):=ae;have hpe:p<(aW m).length:=(aS e2)
 have hqe:q<(aW m).length:=by rw[gF];omega
 have e3:∃ c,(aW m)[q]?=some (vB c):=⟨_,kZ (Qa1 (show q<m.length by omega))⟩
 obtain⟨c,e3⟩:=e3;have hw:=K9 m q true;have i1:=idx e1;have i2:=idx e2;have i3:=idx e3;refine Ex.of (n:=300) ?_;unfold zS;rw[hk1];clear h1 hj;generalize SD st=ss at*;cases b
 ·rw[if_neg aC];simp[vsI,f1526,hj0,hjl,aP,hp0,hpn,e1,e2,dw,hpe,i1,i2]
 ·rw[if_pos rfl,<-hw];simp[vsI,f1526,hj0,hjl,aP,hp0,hq0,hpn,hqn,e1,e2,e3,dw,hpe,hqe,i1,i2,i3]
theorem YQ (n k:Nat)(hn:n<=1000000)(hk:k<=1000000)(st:List (Nat × Nat))(hst:st.length=k)(hr:∀ x ∈ st,x.1<n/\x.2<n)(m:List Bool)(hm:m.length=n)(v3:FV) :
  Ex E1 (.loop vsI) (zS n st m v3 (dI (0:Nat)) .u .u) (.exit 2,zS n st (pass st m) v3 (dI k) .u (dB false)):=by
 obtain⟨r,h1,h2⟩:=Ex.fold (E:=E1) (b:=vsI) st sp1 m
  (fun j x t=>t=zS n st x v3 (dI j) .u .u/\x.length=n)
  (fun x r=>r=(.exit 2,zS n st x v3 (dI k) .u (dB false)))
  (fun j x t hx ⟨ht,g1⟩=>by
   subst ht;obtain⟨p,q⟩:=x;generalize (st.take j).foldl sp1 m=y at*;obtain⟨q1,q2⟩:=hr _ (Qb2 hx);simp only at q1 q2;have a1:y[p]?=some (y[p]'(by omega)):=Qa1 ae;have k1:=UU n k hn hk st hst y g1 v3 j p q hx _ a1 q2;have e1:(if y[p]'(by omega)=true then y.set q true else y)=sp1 y (p,q):=by
    unfold sp1;rw[a1];cases y[p]'(by omega)<;>simp
   rw[e1]at k1;exact⟨_,k1,rfl,by rw[zP,g1]⟩)
  (fun t ⟨ht,g1⟩=>by
   subst ht;generalize st.foldl sp1 m=y at*;have hel:(SD st).length=k:=by simp[SD,hst]
   rw[hst];refine⟨_,Ex.of (n:=60) ?_,aC,rfl⟩;unfold zS;rw[<-hel];simp[vsI,f1526])
  (st:=zS n st m v3 (dI (0:Nat)) .u .u) ⟨rfl,hm⟩
 subst h2;exact h1
theorem UW (st:List (Nat × Nat)):∀ (m:List Bool),(pass st m).length=m.length:=by
 unfold pass
 induction st with
 | nil=>intro m;rfl
 | cons e st ih=>intro m;rw[Qp0,ih,zP]
theorem pJ (st:List (Nat × Nat))(m:List Bool):∀ k,(passes st k m).length=m.length
 | 0=>rfl
 | k+1=>by rw[passes,UW,pJ st m k]
theorem B_ (st:List (Nat × Nat))(m:List Bool)(n:Nat)(hn:n<=1000000)(hk:st.length<=1000000)(hr:∀ x ∈ st,x.1<n/\x.2<n)(hm:m.length=n) :
  Ca E1 1526 [.d (.s 1 (aW m)),.d (.s 2 (SD st))] (.d (.s 1 (aW (nK m st))),none):=by
 rw[<-K8 (m0:=m) (st:=st) (fun e he=>by rw[hm];exact(hr e he).2),hm];rcases Qq0 n with rfl|h0
 ·obtain rfl:m=[]:=Xf0.1 hm;refine Ca.bO (n:=100) ?_;rw[aB rfl (k1526:E1.fn _=_) rfl];simp only[passes,aW,Qc2];generalize SD st=ss at*;simp[f1526,aH,most]
 obtain⟨r,h1,h2⟩:=Ex.inv (E:=E1) (b:=UT) (fun a:Nat=>zS n st (passes st a m) (dI a) .u .u .u) (fun a=>n-a) (fun a=>a<=n)
  (fun r=>r=(.exit 0,zS n st (passes st n m) (dI n) .u (dB false) .u)) (fun j hj=>by
   rcases Qg2 j n with h|h
   ·refine .inl ⟨j+1,?_,ae,ae⟩;have hl:(passes st j m).length=n:=by rw[pJ,hm]
    have k1:=YQ n st.length hn hk st rfl hr (passes st j m) hl (dI j);have hjn:(j:Int)<(n:Int):=ae;have aP:av .i64 ((j:Int)+1)=(j:Int)+1:=wrap_i64 ae;have hk1:((j+1:Nat):Int)=(j:Int)+1:=ae;have hbl:(aW (passes st j m)).length=n:=by rw[gF,hl]
    have sA:Ex E1 UT.l (zS n st (passes st j m) (dI j) .u .u .u) (.norm,zS n st (passes st j m) (dI j) .u (dB true) .u):=by
     apply e6;unfold zS;clear k1;generalize aW (passes st j m)=bs,SD st=ss at*;simp[UT,f1526,hjn]
    have sB := nx sA UT.r.l.bl.l (zS n st (passes st j m) (dI j) (dI (0:Nat)) .u .u) (by
     apply e6;unfold zS;rw[show((0:Nat):Int)=0 from rfl];clear k1;generalize aW (passes st j m)=bs,SD st=ss at*;simp[UT,f1526])
    have sC:Ex E1 UT.r.r (zS n st (passes st (j+1) m) (dI j) (dI st.length) .u (dB false)) (.norm,zS n st (passes st (j+1) m) (dI (j+1:Nat)) .u .u .u):=by
     apply e6;unfold zS;rw[hk1];clear k1;generalize aW (passes st (j+1) m)=bs,SD st=ss at*;simp[UT,f1526,aP]
    show Ex E1 (.seq UT.l (.seq (.block 1 (.seq UT.r.l.bl.l (.block 2 (.loop vsI)))) UT.r.r)) _ _;exact sA.seq (Ex.seq (Ex.fF (sB.seq (Ex.block k1))) sC)
   ·obtain rfl:j=n:=ae;have hbl:(aW (passes st j m)).length=j:=by rw[gF,pJ,hm]
    refine .inr ⟨_,Ex.of (n:=60) ?_,aC,rfl⟩;unfold zS;generalize aW (passes st j m)=bs,SD st=ss at*;simp[UT,f1526]) 0 (Qy1 _)
 subst h2;have hbl:(aW m).length=n:=by rw[gF,hm]
 have hbr:(aW (passes st n m)).length=n:=by rw[gF,pJ,hm]
 have hne:aW m≠[]:=fun h=>by rw[h]at hbl;simp at hbl;omega
 have hemp:(aW m).isEmpty=false:=by simpa using hne
 have m1:n<=most:=by unfold most;omega
 have sA:Ex E1 f1526.body.l (st0 (.d (.s 1 (aW m))::.d (.s 2 (SD st))::qm) []) (.norm,(st0 (.d (.s 1 (aW m))::.d (.s 2 (SD st))::qm) [])):=by
  apply e6;simp[f1526]
 have sB := nx sA f1526.body.r.l (st0 (.ls (.loc 0) 0 1 0 n::.d (.s 2 (SD st))::qm) [.row 0 1 (aW m)]) (by
  apply e6;clear h1;generalize aW m=bs,SD st=ss at*;simp[f1526,hbl,m1,hemp,hne])
 have sC := nx sB f1526.body.r.r.l.l (zS n st (passes st 0 m) (dI (0:Nat)) .u .u .u) (by
  apply e6;unfold zS;rw[show((0:Nat):Int)=0 from rfl];simp[f1526,passes])
 have sD:∃ st',Ex E1 f1526.body.r.r.r (zS n st (passes st n m) (dI n) .u (dB false) .u) (.ret,st')/\finish f1526 st'=some (.d (.s 1 (aW (passes st n m))),none):=by
  clear h1;unfold zS;have tk:(aW (passes st n m)).take n=aW (passes st n m):=Qe0 ae;generalize aW (passes st n m)=bs,SD st=ss at*;refine⟨_,Ex.of (n:=60) (by simp[f1526];rfl),?_⟩;simp[finish,show f1526.res=[.var 2] from rfl,show f1526.ref=false from rfl,ai.view,hbr,tk]
 obtain⟨st',e1,e2⟩:=sD;exact Ca.body (o:=.ret) rfl (k1526:E1.fn _=_) rfl (sA.seq (sB.seq (Ex.seq (sC.seq (Ex.block h1)) e1))) aC e2
def kW (sz:Nat)(pre:List ai)(acc:List D)(out:FV)(L:List ai):Prop:=(acc=[]/\out=.d (.n sz)/\L=pre)\/∃ az,out=.ls (.loc pre.length) az sz 0 acc.length/\L=pre++[.row az sz acc]
variable {α:Type} {e:α->W} {bT:α->Bool} {kk:Int} {ps:List Int}
def vlL:aF:=f1525.body.r.r.l.r.bl.lp
def Pn (es:List D)(out:FV)(j:Nat)(t:FV)(L:List ai):St :=
 (st0 [.u,.d (.s 8 es),rL 0,.u,out,dI j,t] L)
theorem UX (ws:List W)(j:Nat)(x:W)(b:Bool)(hn:ws.length<=1000000)(hx:ws[j]?=some x)(acc:List Bool)(hac:acc.length=j)(out:FV)(L:List ai)(ho:kW 1 [aK kk ps] (aW acc) out L)
  (hc:Ca E1 1126 [.d (bD kk ps),.d x.d] (dB b,none)) :
  ∃ out' L',Ex E1 vlL (Pn (ws.map W.d) out j .u L) (.norm,Pn (ws.map W.d) out' (j+1) .u L')/\kW 1 [aK kk ps] (aW (acc++[!b])) out' L':=by
 obtain⟨N,t⟩:=hc.get;have hj:j<ws.length:=(aS hx)
 have hj0:(0:Int)<=(j:Int):=ae;have aP:av .i64 ((j:Int)+1)=(j:Int)+1:=wrap_i64 ae;have hk1:((j+1:Nat):Int)=(j:Int)+1:=ae;have e1:(ws.map W.d)[j]?=some x.d:=by simp[hx]
 have hbd:aW (acc++[!b])=aW acc++[vB !b]:=by simp[aW]
 have hbl:(aW acc).length=j:=by rw[gF,hac]
 obtain⟨s,l2,l3,c,b',u,p,q,ex⟩:=x.bq;rw[ex]at t e1;clear ex hx hc;rw[hbd];generalize aW acc=rs at*;unfold kW aK bD wD at*;generalize LK .i64 ps=l9,ws.map W.d=es at*;have i0:=idx e1;have dw:j<es.length:=(aS e1)
 have hjl:(j:Int)<(es.length:Int):=ae;rcases ho with ⟨rfl,rfl,rfl⟩|⟨az,rfl,rfl⟩
 ·refine⟨.ls (.loc 1) 0 1 0 1,[.box [dI kk,.d (.s 1 l9)],.row 0 1 [vB !b]],Ex.of (n:=N+200) ?_,.inr ⟨0,rfl,rfl⟩⟩;unfold Pn;rw[hk1];simp[vlL,f1525,t,hj0,dw,hjl,aP,e1,i0,most]
 ·have tk:rs.take j=rs:=by rw[<-hbl,Qj0]
  have m1:j+1<=most:=by unfold most;omega
  have m2:(j+1)*1<=most:=ae;refine⟨.ls (.loc 1) (az+1) 1 0 (j+1),[.box [dI kk,.d (.s 1 l9)],.row (az+1) 1 (rs++[vB !b])],Ex.of (n:=N+200) ?_,.inr ⟨az+1,by simp[hbl],rfl⟩⟩;unfold Pn;rw[hk1];simp[vlL,f1525,t,hj0,dw,hjl,aP,e1,i0,tk,m1,m2,hbl]
theorem M8 (l:List α)(hn:l.length<=1000000)(hc:∀ x ∈ l,Ca E1 1126 [.d (bD kk ps),.d (e x).d] (dB (bT x),none)) :
  Ca E1 1525 [.d (bD kk ps),.d (.s 8 ((l.map e).map W.d))] (.d (.s 1 (aW (yT bT l))),none):=by
 obtain⟨r,h1,out,L,h2,h3⟩:=Ex.fold (E:=E1) (b:=vlL) l (fun p x=>p++[!bT x]) []
  (fun j acc st=>∃ out L,st=Pn ((l.map e).map W.d) out j .u L/\kW 1 [aK kk ps] (aW acc) out L/\acc.length=j)
  (fun acc r=>∃ out L,r=(.exit 0,Pn ((l.map e).map W.d) out l.length (dB false) L)/\kW 1 [aK kk ps] (aW acc) out L)
  (fun j x st hx ⟨out,L,hst,g1,g2⟩=>by
   subst hst;obtain⟨out',L',k1,k2⟩:=UX (kk:=kk) (ps:=ps) (l.map e) j (e x) (bT x) (by simpa using hn) (by simp[hx]) _ g2 out L g1 (hc x (Qb2 hx));exact⟨_,k1,out',L',rfl,k2,by rw[Qb0,g2];rfl⟩)
  (fun st ⟨out,L,hst,g1,g2⟩=>by
   subst hst;have hel:((l.map e).map W.d).length=l.length:=aC;refine⟨_,Ex.of (n:=60) (r:=(.exit 0,Pn ((l.map e).map W.d) out l.length (dB false) L)) ?_,aC,out,L,rfl,g1⟩;unfold Pn;rw[<-hel];generalize (l.map e).map W.d=es at*;simp[vlL,f1525])
  (st:=Pn ((l.map e).map W.d) (.d (.n 1)) 0 .u [aK kk ps]) ⟨_,_,rfl,.inl ⟨rfl,rfl,rfl⟩,rfl⟩
 subst h2;rw[jX,Qn0]at h3
 change kW 1 [aK kk ps] (aW (yT bT l)) out L at h3
 generalize aW (yT bT l)=rs,(l.map e).map W.d=es at*;have sA:Ex E1 f1525.body.l (st0 (.d (bD kk ps)::.d (.s 8 es)::iO) []) (.norm,(st0 (.u::.d (.s 8 es)::rL 0::mO) [aK kk ps])):=by
  apply e6;unfold bD aK;simp[f1525]
 have sB := nx sA f1525.body.r.l (st0 [.u,.d (.s 8 es),rL 0,.u,.d (.n 1),.u,.u] [aK kk ps]) (by
  apply e6;simp[f1525])
 have sC := nx sB f1525.body.r.r.l.l (Pn es (.d (.n 1)) 0 .u [aK kk ps]) (by
  apply e6;unfold Pn;rw[show((0:Nat):Int)=0 from rfl];simp[f1525])
 have sD:∃ st',Ex E1 f1525.body.r.r.r (Pn es out l.length (dB false) L) (.ret,st')/\finish f1525 st'=some (.d (.s 1 rs),none):=by
  clear h1;unfold Pn;rcases h3 with ⟨rfl,rfl,rfl⟩|⟨az,rfl,rfl⟩
  ·refine⟨_,Ex.of (n:=60) (by simp[f1525];rfl),?_⟩;simp[finish,show f1525.res=[.var 3] from rfl,show f1525.ref=false from rfl]
  ·refine⟨_,Ex.of (n:=60) (by simp[f1525];rfl),?_⟩;simp[finish,show f1525.res=[.var 3] from rfl,show f1525.ref=false from rfl,ai.view]
 obtain⟨st',e1,e2⟩:=sD;exact Ca.body (o:=.ret) rfl (aN 1525 f1525:E1.fn _=_) rfl (sA.seq (sB.seq (Ex.seq (sC.seq (Ex.block h1)) e1))) aC e2
end Fi.S
noncomputable section
namespace Fi.S
open Go Fi
set_option maxHeartbeats 8000000
section
variable {α:Type} {P:α->Prop} {pl tm:α->α->α} {z o:α}
variable {bT:α->Bool}
section trim
variable (A:Alg P pl tm z o) (hz:∀ x,P x->bT x=true->x=z) {n:Nat} {aJ fin:List α} {l:List (Ar α)} (h1:aJ.length=n) (h2:fin.length=n) (p1:∀ x ∈ aJ,P x) (p2:∀ x ∈ fin,P x) (hl:PA P l) (hin:∀ a ∈ l,(0<=a.f/\a.f<n)/\(0<=a.t/\a.t<n))
include A hz h1 h2 p1 p2 hl hin
end trim
end
end Fi.S
noncomputable section
namespace Fi.S
open Go Fi
set_option maxHeartbeats 8000000
set_option maxRecDepth 10000
section vals
variable {kk:Int} {ps:List Int} (hv:aR kk ps=true)
include hv
end vals
section weight
variable {kk:Int} {ps:List Int} (hv:aR kk ps=true) {sy n:Nat} {aJ fin:List (List Sv)} (M:Made kk ps sy n aJ fin) {l:List (Ar (List Sv))} (hl:acn kk ps sy n l) (hn:n<=4) (w:List Int) (hw:w.length<=4) (hws:∀ x ∈ w,1<=x/\x<=(sy:Int))
include hv M hl hn hw hws
end weight
end Fi.S
noncomputable section
namespace Fi.S
open Go Fi
set_option maxHeartbeats 8000000
set_option maxRecDepth 10000
section plain
variable {α:Type} {pl:α->α->α} {bT:α->Bool}
theorem FX {x:Ar α}:∀ {l:List (Ar α)},(∀ a ∈ l,gP x a)->bu pl x l=x::l
 | [],_=>rfl
 | a::l,h=>by
  have h1:=h a aC;rw[bu,if_neg (sN h1),if_neg (Iq h1)]
variable {m:List Bool}
theorem YP {a b:Ar α}(h:kV a b):stay m a=stay m b:=by
 obtain⟨h1,_,h3⟩:=h;unfold stay;rw[h1,h3]
theorem UQ {a b:Ar α}(ha:stay m a=true)(hb:stay m b=true)(pa:0<=a.f/\0<=a.t)(pb:0<=b.f/\0<=b.t)(h:gP a b):gP (FU m a) (FU m b):=by
 obtain⟨f1,t1⟩:=IY.1 ha;show(toM m a.f.toNat:Int)<toM m b.f.toNat\/(toM m a.f.toNat:Int)=toM m b.f.toNat/\(a.l<b.l\/a.l=b.l/\(toM m a.t.toNat:Int)<toM m b.t.toNat)
 rcases h with h|⟨h,h'⟩
 ·have:=BZ (m:=m) (show a.f.toNat<b.f.toNat by omega) f1;exact .inl ae
 ·refine .inr ⟨by rw[h],?_⟩;rcases h' with h'|⟨h',h''⟩
  ·exact .inl h'
  ·have:=BZ (m:=m) (show a.t.toNat<b.t.toNat by omega) t1;exact .inr ⟨h',ae⟩
theorem UR {a b:Ar α}(h:kV a b):kV (FU m a) (FU m b):=by
 obtain⟨h1,h2,h3⟩:=h;show(toM m a.f.toNat:Int)=toM m b.f.toNat/\a.l=b.l/\(toM m a.t.toNat:Int)=toM m b.t.toNat;rw[h1,h2,h3];exact⟨rfl,rfl,rfl⟩
abbrev Pos (l:List (Ar α)):Prop:=∀ a ∈ l,0<=a.f/\0<=a.t
theorem kJ (a:Ar α)(l:List (Ar α)):oC m (a::l)=if stay m a then FU m a::oC m l else oC m l:=by
 unfold oC;cases h:stay m a with
 | true=>rw[Xe2 h];rfl
 | false=>rw[Xe1 (by simp[h])];rfl
theorem M7 {x:Ar α}(px:0<=x.f/\0<=x.t):∀ {l:List (Ar α)},Yx l->Pos l->oC m (bu pl x l)=if stay m x then bu pl (FU m x) (oC m l) else oC m l
 | [],_,_=>by
  show oC m [x]=_;rw[kJ];split<;>rfl
 | y::l,hs,hp=>by
  obtain⟨s1,s2⟩:=Qn2.1 hs;have py:=hp y aC;have hp':Pos l:=fun a ha=>hp a (by simp[ha])
  have ih:=M7 (x:=x) px s2 hp';rw[kJ,bu]
  by_cases h1:gP y x
  ·rw[if_pos h1,kJ,ih];cases hx:stay m x with
   | false=>simp
   | true =>
    cases hy:stay m y with
    | false=>simp
    | true =>
     simp only[if_true];rw[bu,if_pos (UQ hy hx py px h1)]
  ·rw[if_neg h1]
   by_cases h2:kV y x
   ·rw[if_pos h2,kJ,show stay m (iq pl y x)=stay m y from rfl,YP h2];cases hx:stay m x with
    | false=>simp
    | true =>
     simp only[if_true];rw[bu,if_neg (ry (UR h2)),if_pos (UR h2)];rfl
   ·rw[if_neg h2,kJ,kJ];have hlt:gP x y:=by
     rcases gY y x with g|g|g
     ·exact absurd g h1
     ·exact absurd g h2
     ·exact g
    cases hx:stay m x with
    | false=>simp
    | true =>
     simp only[if_true];symm;refine FX fun a ha => ?_
     have key:∀ b ∈ y::l,stay m b=true->gP (FU m x) (FU m b):=fun b hb hsb=>by
      refine UQ hx hsb px (hp b hb) ?_;rcases Qg1.1 hb with rfl|hb
      ·exact hlt
      ·exact Ef hlt (s1 b hb)
     rw[<-kJ]at ha;obtain⟨b,hb,hsb,rfl⟩:=zR ha;exact key b hb hsb
theorem La {x:Ar α}(px:0<=x.f/\0<=x.t){l:List (Ar α)}(h:Pos l):Pos (bu pl x l):=fun a ha=>by
 rcases uH ha with ⟨e1,_,e3⟩|⟨b,hb,e1,_,e3⟩
 ·rw[e1,e3];exact px
 ·rw[<-e1,<-e3];exact h b hb
theorem IZ {l:List (Ar α)}(h:Pos l):oC m (di pl l)=di pl (oC m l):=by
 have key:∀ (l p:List (Ar α)),Pos l->Yx p->Pos p->oC m (l.foldl (fun p x=>bu pl x p) p)=(oC m l).foldl (fun p x=>bu pl x p) (oC m p):=by
  intro l
  induction l with
  | nil=>intro p _ _ _;rfl
  | cons x l ih =>
   intro p hl hs hp;have px:=hl x aC;rw[Qp0,ih _ (fun a ha=>hl a (by simp[ha])) (BP x hs) (La px hp),M7 px hs hp,kJ];cases stay m x<;>simp
 exact key l [] h List.Pairwise.nil (fun a ha=>by cases ha)
theorem Pm {l:List (Ar α)}(h:Pos l):nV pl bT (oC m l)=oC m (nV pl bT l):=by
 show(di pl (oC m l)).filter (fun a => !bT a.x)=oC m ((di pl l).filter fun a => !bT a.x);rw[<-IZ h];unfold oC;rw[List.filter_map,List.filter_filter,List.filter_filter]
 congr 1
 refine List.filter_congr fun a _ => ?_
 show(!bT a.x&&stay m a)=(stay m a && !bT a.x)
 rw[Bool.and_comm]
end plain
section trimmed
variable {kk:Int} {ps:List Int} (hv:aR kk ps=true) {sy n:Nat} {aJ fin:List (List Sv)} (M:Made kk ps sy n aJ fin) {l:List (Ar (List Sv))} (hl:acn kk ps sy n l)
include hv M hl
end trimmed
end Fi.S
noncomputable section
namespace Fi.S
open Go Fi
set_option maxHeartbeats 8000000
set_option maxRecDepth 10000
section
variable {β:Type}
theorem I6 {m:List Bool}{l:List β}{j:Nat}{b:Bool}{x:β}(hb:m[j]?=some b)(hx:l[j]?=some x):fB (m.take (j+1)) (l.take (j+1))=fB (m.take j) (l.take j)++(if b then [x] else []):=by
 obtain⟨h1,rfl⟩:=Qm0.1 hb;obtain⟨h2,rfl⟩:=Qm0.1 hx;unfold fB;rw[Qi1 h1,Qi1 h2,List.zip_append (by rw[Ql2,Ql2];omega),Xl2,Qr0];cases m[j]<;>simp
theorem I7 {m:List Bool}{l:List β}{n:Nat}(h1:m.length=n)(h2:l.length=n):fB (m.take n) (l.take n)=fB m l:=by
 rw[Qe0 ae,Qe0 ae]
theorem UY (m:List Bool)(l:List β):(fB m l).length<=l.length:=by
 unfold fB;rw[Qk0];exact Qe2 (Q80 ..) (by rw[Xm0];omega)
end
def nX (m:List Bool)(j n:Nat):List D:=((List.range j).map fun i=>D.v (.int .i64 (if m[i]?=some true then toM m i else 0:Nat)))++List.replicate (n-j) (vI 0)
theorem YR (m:List Bool){j n:Nat}(h:j<=n):(nX m j n).length=n:=by simp[nX];omega
theorem YS {m:List Bool}{j n:Nat}(h:j<n){b:Bool}(hb:m[j]?=some b):nX m (j+1) n=if b then(nX m j n).set j (vI (toM m j:Nat)) else nX m j n:=by
 have e:=BR ((List.range j).map fun i=>D.v (.int .i64 (if m[i]?=some true then toM m i else 0:Nat))) (D.v (.int .i64 (if b then toM m j else 0:Nat))) (vI 0) n j aC h;have e2:nX m (j+1) n=(nX m j n).set j (D.v (.int .i64 (if b then toM m j else 0:Nat))):=by
  unfold nX;rw[e,List.range_succ,Qr0];cases b<;>simp[hb]
 rw[e2];cases b with
 | true=>rfl
 | false =>
  unfold nX;obtain⟨d,hd⟩:∃ d,n-j=d+1:=⟨n-j-1,ae⟩
  rw[hd,Q60,Qv2 _ _ aC];simp
theorem YT (m:List Bool){j n:Nat}(h:j<n):(nX m j n)[j]?=some (vI 0):=by
 unfold nX;rw[Qb1 aC];simp[Qz0];omega
theorem UZ {m:List Bool}{i n:Nat}(h:i<n)(hm:m[i]?=some true):(nX m n n)[i]?=some (vI (toM m i:Nat)):=by
 unfold nX;rw[Qa0 (by simpa using h)];simp[h,hm]
section
variable {kk:Int} {ps:List Int}
theorem Pp {sy:Int}{n:Nat}{xs ys:List (List Sv)}{zs:List (Ar (List Sv))}{u:List Bool}(hu:u.length=n)(hx:xs.length=n)(hy:ys.length=n)(h:zi kk ps sy (n:Int) (xs.map (gN kk)) (ys.map (gN kk)) (gN kk) zs=true) :
  zi kk ps sy (cnt u:Nat) ((fB u xs).map (gN kk)) ((fB u ys).map (gN kk)) (gN kk) (oC u zs)=true:=by
 have hc:=uI u;have hs1:(fB u xs).length=cnt u:=FW ae;have hs2:(fB u ys).length=cnt u:=FW ae;have hp:(oC u zs).length<=zs.length:=by
  unfold oC;rw[Qk0];exact Q80 ..
 unfold zi Eh mQ OM at h ⊢;simp only[Qa2,decide_eq_true_eq,Qf0,Qk0]at h ⊢;obtain⟨⟨h1,h2,h3,h4,h5,h6,h7,h8⟩,k1,k2,k3⟩:=h;refine⟨⟨h1,h2,h3,ae,ae,ae,ae,ae⟩,fun a ha => ?_,fun w hw => ?_,fun w hw => ?_⟩
 ·obtain⟨b,hb,hs,rfl⟩:=zR ha;obtain⟨s1,s2⟩:=IY.1 hs;have g1:=K_ s1;have g2:=K_ s2;obtain⟨_,_,g3⟩:=k1 b hb;exact⟨⟨by show(0:Int)<=(toM u b.f.toNat:Int);omega,by show(toM u b.f.toNat:Int)<_;omega⟩,⟨by show(0:Int)<=(toM u b.t.toNat:Int);omega,by show(toM u b.t.toNat:Int)<_;omega⟩,g3⟩
 ·obtain⟨x,hx',rfl⟩:=Qj2.1 hw;exact k2 _ (Qj2.2 ⟨x,zQ hx',rfl⟩)
 ·obtain⟨x,hx',rfl⟩:=Qj2.1 hw;exact k3 _ (Qj2.2 ⟨x,zQ hx',rfl⟩)
end
end Fi.S
noncomputable section
namespace Fi.S
open Go Fi
set_option maxHeartbeats 8000000
set_option maxRecDepth 10000
def lh (st:List (Nat × Nat)):List (Nat × Nat):=st.map fun x=>(x.2,x.1)
def bhL:aF:=f1524.body.r.r.l.r.bl.lp
def M9 (x0 x1 es:List D)(out:FV)(j:Nat)(t:FV)(L:List ai):St :=
 (st0 [.d (.s 1 x0),.d (.s 1 x1),.d (.s 2 es),.u,out,dI j,.u,.u,.u,.u,t,.u] L)
theorem U0 (x0 x1:List D)(st:List (Nat × Nat))(hn:st.length<=1000000)(j p q:Nat)(hj:st[j]?=some (p,q))(acc:List (Nat × Nat))(hac:acc.length=j)(out:FV)(L:List ai)(ho:kW 2 [] (SD acc) out L) :
  ∃ out' L',Ex E1 bhL (M9 x0 x1 (SD st) out j .u L) (.norm,M9 x0 x1 (SD st) out' (j+1) .u L')/\kW 2 [] (SD (acc++[(q,p)])) out' L':=by
 have hjk:j<st.length:=(aS hj)
 have hj0:(0:Int)<=(j:Int):=ae;have aP:av .i64 ((j:Int)+1)=(j:Int)+1:=wrap_i64 ae;have hk1:((j+1:Nat):Int)=(j:Int)+1:=ae;have e1:=Uu hj;have hbd:SD (acc++[(q,p)])=SD acc++[.a [vI q,vI p]]:=by simp[SD]
 have hbl:(SD acc).length=j:=by simp[SD,hac]
 rw[hbd];generalize SD acc=rs,SD st=es at*;unfold kW at*;have i0:=idx e1;have dw:j<es.length:=(aS e1)
 have hjl:(j:Int)<(es.length:Int):=ae;rcases ho with ⟨rfl,rfl,rfl⟩|⟨az,rfl,rfl⟩
 ·refine⟨.ls (.loc 0) 0 2 0 1,[.row 0 2 [.a [vI q,vI p]]],Ex.of (n:=200) ?_,.inr ⟨0,rfl,rfl⟩⟩;unfold M9;rw[hk1];simp[bhL,f1524,hj0,dw,hjl,aP,e1,i0,most]
 ·have tk:rs.take j=rs:=by rw[<-hbl,Qj0]
  have m1:j+1<=most:=by unfold most;omega
  have m2:(j+1)*16<=most:=by unfold most;omega
  refine⟨.ls (.loc 0) (az+1) 2 0 (j+1),[.row (az+1) 2 (rs++[.a [vI q,vI p]])],Ex.of (n:=200) ?_,.inr ⟨az+1,by simp[hbl],rfl⟩⟩;unfold M9;rw[hk1];simp[bhL,f1524,hj0,dw,hjl,aP,e1,i0,tk,m1,m2,hbl]
def bqL:aF:=f1524.body.r.r.r.r.r.l.r.bl.lp
def Lb (x y:List D)(out:FV)(j:Nat)(t:FV)(L:List ai):St :=
 (st0 [.u,.u,.u,.u,.u,.u,.d (.s 1 x),.d (.s 1 y),out,dI j,.u,t] L)
theorem U1 (X:List ai)(hX:X.length<=1)(x y:List Bool)(hn:x.length<=1000000)(j:Nat)(b c:Bool)(hb:x[j]?=some b)(hc:y[j]?=some c)(acc:List Bool)(hac:acc.length=j)(out:FV)(L:List ai)(ho:kW 1 X (aW acc) out L) :
  ∃ out' L',Ex E1 bqL (Lb (aW x) (aW y) out j .u L) (.norm,Lb (aW x) (aW y) out' (j+1) .u L')/\kW 1 X (aW (acc++[b&&c])) out' L':=by
 have hjk:j<x.length:=(aS hb)
 have hj0:(0:Int)<=(j:Int):=ae;have aP:av .i64 ((j:Int)+1)=(j:Int)+1:=wrap_i64 ae;have hk1:((j+1:Nat):Int)=(j:Int)+1:=ae;have e1:=kZ hb;have e2:=kZ hc;have hbd:aW (acc++[b&&c])=aW acc++[vB (b&&c)]:=by simp[aW]
 have hbl:(aW acc).length=j:=by rw[gF,hac]
 rw[hbd];generalize aW acc=rs,aW x=es,aW y=fs at*;unfold kW at*;have i0:=idx e1;have i1:=idx e2;have dw:j<es.length:=(aS e1)
 have hjf:j<fs.length:=(aS e2)
 have hjl:(j:Int)<(es.length:Int):=ae;have hjm:(j:Int)<(fs.length:Int):=ae;rcases ho with ⟨rfl,rfl,rfl⟩|⟨az,rfl,rfl⟩
 ·refine⟨.ls (.loc L.length) 0 1 0 1,L++[.row 0 1 [vB (b&&c)]],Ex.of (n:=200) ?_,.inr ⟨0,rfl,rfl⟩⟩;unfold Lb;rw[hk1];cases b<;>simp[bqL,f1524,hj0,dw,hjf,hjl,hjm,aP,e1,e2,i0,i1,most]
 ·have tk:rs.take j=rs:=by rw[<-hbl,Qj0]
  have m1:j+1<=most:=by unfold most;omega
  have m2:(j+1)*1<=most:=ae;have g1:∀ o:ai,(X++[o])[X.length]?=some o:=fun o=>by simp
  have s1:∀ o o':ai,(X++[o]).set X.length o'=X++[o']:=fun o o'=>by simp
  refine⟨.ls (.loc X.length) (az+1) 1 0 (j+1),X++[.row (az+1) 1 (rs++[vB (b&&c)])],Ex.of (n:=200) ?_,.inr ⟨az+1,by simp[hbl],rfl⟩⟩;unfold Lb;rw[hk1];cases b<;>simp[bqL,f1524,hj0,dw,hjf,hjl,hjm,aP,e1,e2,i0,i1,tk,m1,m2,hbl,g1,s1]
theorem YU (X:List ai)(hX:X.length<=1)(x y:List Bool)(n:Nat)(hn:n<=1000000)(hx:x.length=n)(hy:y.length=n) :
  ∃ out L,Ex E1 (.loop bqL) (Lb (aW x) (aW y) (.d (.n 1)) 0 .u X) (.exit 2,Lb (aW x) (aW y) out n (dB false) L)/\kW 1 X (aW (List.zipWith and x y)) out L:=by
 have hzl:(x.zip y).length=n:=by rw[Xm0];omega
 obtain⟨r,h1,out,L,h2,h3⟩:=Ex.fold (E:=E1) (b:=bqL) (x.zip y) (fun(p:List Bool) a=>p++[a.1&&a.2]) []
  (fun j acc st=>∃ out L,st=Lb (aW x) (aW y) out j .u L/\kW 1 X (aW acc) out L/\acc.length=j)
  (fun acc r=>∃ out L,r=(.exit 2,Lb (aW x) (aW y) out n (dB false) L)/\kW 1 X (aW acc) out L)
  (fun j a st ha ⟨out,L,hst,g1,g2⟩=>by
   subst hst;obtain⟨hj,ha'⟩:=Qm0.1 ha;rw[List.getElem_zip]at ha';subst ha';obtain⟨out',L',k1,k2⟩:=U1 X hX x y ae j _ _ (Qa1 ae) (Qa1 ae) _ g2 out L g1;exact⟨_,k1,out',L',rfl,k2,by rw[Qb0,g2];rfl⟩)
  (fun st ⟨out,L,hst,g1,g2⟩=>by
   subst hst;have hel:(aW x).length=n:=by rw[gF,hx]
   rw[hzl];refine⟨_,Ex.of (n:=60) (r:=(.exit 2,Lb (aW x) (aW y) out n (dB false) L)) ?_,aC,out,L,rfl,g1⟩;unfold Lb;rw[<-hel];generalize aW x=es,aW y=fs at*;simp[bqL,f1524])
  (st:=Lb (aW x) (aW y) (.d (.n 1)) 0 .u X) ⟨_,_,rfl,.inl ⟨rfl,rfl,rfl⟩,rfl⟩
 subst h2;rw[jX (fun a:Bool × Bool=>a.1&&a.2),Qn0]at h3;refine⟨out,L,h1,?_⟩;have:(x.zip y).map (fun a=>a.1&&a.2)=List.zipWith and x y:=by rw[List.zip_eq_zipWith,List.map_zipWith]
 rwa [this]at h3
theorem YV (m1 m2:List Bool)(n:Nat)(hn:n<=1000000)(h1:m1.length=n)(h2:m2.length=n)(st:List (Nat × Nat))(hk:st.length<=1000000)(hr:∀ x ∈ st,x.1<n/\x.2<n) :
  Ca E1 1524 [.d (.s 1 (aW m1)),.d (.s 1 (aW m2)),.d (.s 2 (SD st))] (.d (.s 1 (aW (List.zipWith and (nK m1 st) (nK m2 (lh st))))),none):=by
 obtain⟨N1,t1⟩:=(B_ st m1 n hn hk hr h1).get;obtain⟨N2,t2⟩:=(B_ (lh st) m2 n hn (by simpa[lh] using hk) (fun x hx=>by
  obtain⟨y,hy,rfl⟩:=Qj2.1 hx;exact⟨(hr y hy).2,(hr y hy).1⟩) h2).get
 obtain⟨r,l1,out,L,hr1,ho⟩:=Ex.fold (E:=E1) (b:=bhL) st (fun(p:List (Nat × Nat)) x=>p++[(x.2,x.1)]) []
  (fun j acc t=>∃ out L,t=M9 (aW m1) (aW m2) (SD st) out j .u L/\kW 2 [] (SD acc) out L/\acc.length=j)
  (fun acc r=>∃ out L,r=(.exit 0,M9 (aW m1) (aW m2) (SD st) out st.length (dB false) L)/\kW 2 [] (SD acc) out L)
  (fun j x t hx ⟨out,L,ht,g1,g2⟩=>by
   subst ht;obtain⟨p,q⟩:=x;obtain⟨out',L',k1,k2⟩:=U0 (aW m1) (aW m2) st hk j p q hx _ g2 out L g1;exact⟨_,k1,out',L',rfl,k2,by rw[Qb0,g2];rfl⟩)
  (fun t ⟨out,L,ht,g1,g2⟩=>by
   subst ht;have hel:(SD st).length=st.length:=by simp[SD]
   refine⟨_,Ex.of (n:=60) (r:=(.exit 0,M9 (aW m1) (aW m2) (SD st) out st.length (dB false) L)) ?_,aC,out,L,rfl,g1⟩;unfold M9;rw[<-hel];generalize SD st=es at*;simp[bhL,f1524])
  (st:=M9 (aW m1) (aW m2) (SD st) (.d (.n 2)) 0 .u []) ⟨_,_,rfl,.inl ⟨rfl,rfl,rfl⟩,rfl⟩
 subst hr1;rw[jX,Qn0]at ho
 change kW 2 [] (SD (lh st)) out L at ho
 have la:(nK m1 st).length=n:=by rw[ny,h1]
 have lb:(nK m2 (lh st)).length=n:=by rw[ny,h2]
 obtain⟨X,hX,hD⟩:∃ X:List ai,X.length<=1/\Ex E1 f1524.body.r.r.r.l (M9 (aW m1) (aW m2) (SD st) out st.length (dB false) L)
   (.norm,(st0 [.u,.u,.u,.u,.u,.u,.d (.s 1 (aW (nK m1 st))),.d (.s 1 (aW (nK m2 (lh st)))),.u,.u,.u,.u] X)):=by
  generalize aW (nK m1 st)=y1,aW (nK m2 (lh st))=y2,aW m1=x1,aW m2=x2,SD (lh st)=x3,SD st=x4 at*;obtain⟨K,hK⟩:∃ K,K=N1+N2:=⟨_,rfl⟩
  replace t1:=fun k=>bX (t1 0) (show N1+0<=K+k by omega)
  replace t2:=fun k=>bX (t2 0) (show N2+0<=K+k by omega)
  clear l1;rcases ho with ⟨rfl,rfl,rfl⟩|⟨az,rfl,rfl⟩
  ·refine⟨[],aC,Ex.of (n:=K+100) ?_⟩;unfold M9;simp[f1524,t1,t2]
  ·refine⟨[.fU az 2 x3],aC,Ex.of (n:=K+100) ?_⟩;unfold M9;simp[f1524,t1,t2,ai.view,ai.freeze]
 obtain⟨o2,L2,l2,ho2⟩:=YU X hX (nK m1 st) (nK m2 (lh st)) n hn la lb;generalize List.zipWith and (nK m1 st) (nK m2 (lh st))=z at*;have sA:Ex E1 f1524.body.l (st0 (.d (.s 1 (aW m1))::.d (.s 1 (aW m2))::.d (.s 2 (SD st))::CK) []) (.norm,(st0 (.d (.s 1 (aW m1))::.d (.s 1 (aW m2))::.d (.s 2 (SD st))::CK) [])):=by
  apply e6;simp[f1524]
 have sB := nx sA f1524.body.r.l (st0 (.d (.s 1 (aW m1))::.d (.s 1 (aW m2))::.d (.s 2 (SD st))::.u::.d (.n 2)::nO) []) (by
  apply e6;simp[f1524])
 have sC := nx sB f1524.body.r.r.l.l (M9 (aW m1) (aW m2) (SD st) (.d (.n 2)) 0 .u []) (by
  apply e6;unfold M9;rw[show((0:Nat):Int)=0 from rfl];simp[f1524])
 have sE:Ex E1 f1524.body.r.r.r.r.l (st0 [.u,.u,.u,.u,.u,.u,.d (.s 1 (aW (nK m1 st))),.d (.s 1 (aW (nK m2 (lh st)))),.u,.u,.u,.u] X) (.norm,(st0 [.u,.u,.u,.u,.u,.u,.d (.s 1 (aW (nK m1 st))),.d (.s 1 (aW (nK m2 (lh st)))),.d (.n 1),.u,.u,.u] X)):=by
  apply e6;simp[f1524]
 have sF := nx sE f1524.body.r.r.r.r.r.l.l (Lb (aW (nK m1 st)) (aW (nK m2 (lh st))) (.d (.n 1)) 0 .u X) (by
  apply e6;unfold Lb;rw[show((0:Nat):Int)=0 from rfl];simp[f1524])
 have sG:∃ st',Ex E1 f1524.body.r.r.r.r.r.r (Lb (aW (nK m1 st)) (aW (nK m2 (lh st))) o2 n (dB false) L2) (.ret,st')/\finish f1524 st'=some (.d (.s 1 (aW z)),none):=by
  clear l1 l2 hD sA sB sC sE sF;unfold Lb;generalize aW z=rs at*;rcases ho2 with ⟨rfl,rfl,rfl⟩|⟨az,rfl,rfl⟩
  ·refine⟨_,Ex.of (n:=60) (by simp[f1524];rfl),?_⟩;simp[finish,show f1524.res=[.var 3] from rfl,show f1524.ref=false from rfl]
  ·refine⟨_,Ex.of (n:=60) (by simp[f1524];rfl),?_⟩;have g1:∀ o:ai,(X++[o])[X.length]?=some o:=fun o=>by simp
   simp[finish,show f1524.res=[.var 3] from rfl,show f1524.ref=false from rfl,ai.view,g1]
 obtain⟨st',e1,e2⟩:=sG;exact Ca.body (o:=.ret) rfl (aN 1524 f1524:E1.fn _=_) rfl (sA.seq (sB.seq (Ex.seq (sC.seq (Ex.block l1)) (hD.seq (sE.seq (Ex.seq (sF.seq (Ex.block l2)) e1)))))) aC e2
variable {α:Type} {e:α->W} {bT:α->Bool} {kk:Int} {ps:List Int}
def wuL:aF:=f1522.body.r.r.l.r.bl.lp
def Lc (out:FV)(j:Nat)(t:FV)(L:List ai):St :=
 (st0 [.u,rL 0,.u,out,dI j,t] L)
theorem U2 (sy st:Int)(aJ fin:List D)(ak:List (Ar α))(hn:ak.length<=1000000)(j:Nat)(a:Ar α)(ha:ak[j]?=some a)(acc:List D)(hac:acc.length=j)(out:FV)(L:List ai)(ho:kW 2 [aO kk ps sy st aJ fin (ak.map (Ar.d e))] acc out L) :
  ∃ out' L',Ex E1 wuL (Lc out j .u L) (.norm,Lc out' (j+1) .u L')/\kW 2 [aO kk ps sy st aJ fin (ak.map (Ar.d e))] (acc++[Qq a]) out' L':=by
 have hjk:j<ak.length:=(aS ha)
 have hj0:(0:Int)<=(j:Int):=ae;have aP:av .i64 ((j:Int)+1)=(j:Int)+1:=wrap_i64 ae;have hk1:((j+1:Nat):Int)=(j:Int)+1:=ae;have e1:(ak.map (Ar.d e))[j]?=some (a.d e):=by simp[ha]
 obtain⟨s,l2,l3,c,b,u',q,ps',ew,ed⟩:=a.dP e;rw[ed]at e1;clear ew ed;unfold kW aO mM Qq at*;generalize LK .i64 ps=l9,ak.map (Ar.d e)=es at*;have i0:=idx e1;have dw:j<es.length:=(aS e1)
 have hjl:(j:Int)<(es.length:Int):=ae;rcases ho with ⟨rfl,rfl,rfl⟩|⟨az,rfl,rfl⟩
 ·refine⟨.ls (.loc 1) 0 2 0 1,_,Ex.of (n:=200) (r:=(.norm,Lc (.ls (.loc 1) 0 2 0 1) (j+1) .u [.box [dI kk,.d (.s 1 l9),dI sy,dI st,.d (.s 8 aJ),.d (.s 8 fin),.d (.s 11 es)],.row 0 2 [.a [vI a.f,vI a.t]]])) ?_,.inr ⟨0,rfl,rfl⟩⟩;unfold Lc;rw[hk1];simp[wuL,f1522,hj0,dw,hjl,aP,e1,i0,most]
 ·have tk:acc.take j=acc:=by rw[<-hac,Qj0]
  have m1:j+1<=most:=by unfold most;omega
  have m2:(j+1)*16<=most:=by unfold most;omega
  refine⟨.ls (.loc 1) (az+1) 2 0 (j+1),_,Ex.of (n:=200) (r:=(.norm,Lc (.ls (.loc 1) (az+1) 2 0 (j+1)) (j+1) .u [.box [dI kk,.d (.s 1 l9),dI sy,dI st,.d (.s 8 aJ),.d (.s 8 fin),.d (.s 11 es)],.row (az+1) 2 (acc++[.a [vI a.f,vI a.t]])])) ?_,.inr ⟨az+1,by simp[hac],rfl⟩⟩;unfold Lc;rw[hk1];simp[wuL,f1522,hj0,dw,hjl,aP,e1,i0,tk,m1,m2,hac]
theorem U3 (l:List (Ar α)):lh (Gs l)=rst l:=by simp[lh,Gs,rst,Xo0]
theorem YW (sy st:Int)(aJ fin:List α)(ak:List (Ar α))(hn:aJ.length<=1000000)(hf:fin.length=aJ.length)(h3:ak.length<=100000)(hc:∀ x ∈ aJ,Ca E1 1126 [.d (bD kk ps),.d (e x).d] (dB (bT x),none))(hd:∀ x ∈ fin,Ca E1 1126 [.d (bD kk ps),.d (e x).d] (dB (bT x),none))
  (hin:∀ a ∈ ak,(0<=a.f/\a.f<aJ.length)/\(0<=a.t/\a.t<aJ.length)) :
  Ca E1 1522 [.d (mR kk ps sy st (aJ.map e) (fin.map e) e ak)] (.d (.s 1 (aW (VZ bT aJ fin ak))),none):=by
 obtain⟨hst,hr⟩:=UA hin;obtain⟨N1,t1⟩:=(M8 (e:=e) (bT:=bT) (kk:=kk) (ps:=ps) aJ hn hc).get;obtain⟨N2,t2⟩:=(M8 (e:=e) (bT:=bT) (kk:=kk) (ps:=ps) fin ae hd).get;obtain⟨N3,t3⟩:=(YV (yT bT aJ) (yT bT fin) aJ.length hn (by simp[yT]) (by simp[yT,hf]) (Gs ak) (by simp[Gs];omega) hr).get;rw[U3,<-hst]at t3
 change ∀ m,CL E1 (N3+m) 1524 _ _=some (.d (.s 1 (aW (VZ bT aJ fin ak))),none) at t3
 obtain⟨r,l1,out,L,hr1,ho⟩:=Ex.fold (E:=E1) (b:=wuL) ak (fun(p:List D) x=>p++[Qq x]) []
  (fun j acc t=>∃ out L,t=Lc out j .u L/\kW 2 [aO kk ps sy st ((aJ.map e).map W.d) ((fin.map e).map W.d) (ak.map (Ar.d e))] acc out L/\acc.length=j)
  (fun acc r=>∃ out L,r=(.exit 0,Lc out ak.length (dB false) L)/\kW 2 [aO kk ps sy st ((aJ.map e).map W.d) ((fin.map e).map W.d) (ak.map (Ar.d e))] acc out L)
  (fun j x t hx ⟨out,L,ht,g1,g2⟩=>by
   subst ht;obtain⟨out',L',k1,k2⟩:=U2 (e:=e) sy st _ _ ak ae j x hx _ g2 out L g1;exact⟨_,k1,out',L',rfl,k2,by rw[Qb0,g2];rfl⟩)
  (fun t ⟨out,L,ht,g1,g2⟩=>by
   subst ht;have hel:(ak.map (Ar.d e)).length=ak.length:=aC;refine⟨_,Ex.of (n:=60) (r:=(.exit 0,Lc out ak.length (dB false) L)) ?_,aC,out,L,rfl,g1⟩;unfold Lc;rw[<-hel];unfold kW aO at g1;generalize ak.map (Ar.d e)=es at*;rcases g1 with ⟨_,_,rfl⟩|⟨az,_,rfl⟩<;>simp[wuL,f1522])
  (st:=Lc (.d (.n 2)) 0 .u [aO kk ps sy st ((aJ.map e).map W.d) ((fin.map e).map W.d) (ak.map (Ar.d e))]) ⟨_,_,rfl,.inl ⟨rfl,rfl,rfl⟩,rfl⟩
 subst hr1;rw[jX,Qn0]at ho;obtain⟨K,hK⟩:∃ K,K=N1+N2+N3:=⟨_,rfl⟩
 replace t1:=fun k=>bX (t1 0) (show N1+0<=K+k by omega)
 replace t2:=fun k=>bX (t2 0) (show N2+0<=K+k by omega)
 replace t3:=fun k=>bX (t3 0) (show N3+0<=K+k by omega)
 unfold kW at ho;generalize hbx:aO kk ps sy st ((aJ.map e).map W.d) ((fin.map e).map W.d) (ak.map (Ar.d e))=bx at*;generalize aW (VZ bT aJ fin ak)=us,aW (yT bT aJ)=y1,aW (yT bT fin)=y2,ak.map Qq=x4 at*;have sA:Ex E1 f1522.body.l (st0 (.d (mR kk ps sy st (aJ.map e) (fin.map e) e ak)::iO) []) (.norm,(st0 (.u::rL 0::mO) [bx])):=by
  apply e6;rw[<-hbx];unfold mR gI aO;simp[f1522]
 have sB := nx sA f1522.body.r.l (st0 [.u,rL 0,.u,.d (.n 2),.u,.u] [bx]) (by
  apply e6;simp[f1522])
 have sC := nx sB f1522.body.r.r.l.l (Lc (.d (.n 2)) 0 .u [bx]) (by
  apply e6;unfold Lc;rw[show((0:Nat):Int)=0 from rfl];simp[f1522])
 have sD:∃ st',Ex E1 f1522.body.r.r.r (Lc out ak.length (dB false) L) (.ret,st')/\finish f1522 st'=some (.d (.s 1 us),none):=by
  clear l1 sA sB sC;rw[<-hbx]at ho;unfold Lc aO bD at*;generalize ak.map (Ar.d e)=x3,(aJ.map e).map W.d=x1,(fin.map e).map W.d=x2 at*;rcases ho with ⟨rfl,rfl,rfl⟩|⟨az,rfl,rfl⟩
  ·refine⟨_,Ex.of (n:=K+100) (by simp[f1522,t1,t2,t3];rfl),?_⟩;simp[finish,show f1522.res=[.var 2] from rfl,show f1522.ref=false from rfl]
  ·refine⟨_,Ex.of (n:=K+100) (by simp[f1522,t1,t2,t3,ai.view,ai.freeze];rfl),?_⟩;simp[finish,show f1522.res=[.var 2] from rfl,show f1522.ref=false from rfl]
 obtain⟨st',e1,e2⟩:=sD;exact Ca.body (o:=.ret) rfl (aN 1522 f1522:E1.fn _=_) rfl (sA.seq (sB.seq (Ex.seq (sC.seq (Ex.block l1)) e1))) aC e2
theorem I8 (A:D)(hA:∃ a b c d f g h,A=gI a b c d f g h)(h:Ca E1 1020 [.d A] (dB false,none)):Ca E1 1521 [.d A] (.d (.t [.s 1 [],vI 4]),none):=by
 obtain⟨N,t⟩:=h.get;obtain⟨qa,qb,qc,qd,qf,qg,qh,rfl⟩:=hA;refine Ca.bO (n:=N+100) ?_;rw[aB rfl (k1521:E1.fn _=_) rfl];unfold gI at*;simp[f1521,t,lY]
theorem Ld (A M:D)(u:List D)(hA:∃ a b c d f g h,A=gI a b c d f g h)(hM:∃ a b c d f g h,M=gI a b c d f g h)(h:Ca E1 1020 [.d A] (dB true,none))(hF:Ca E1 1044 [.d A] (.d M,none))(hU:Ca E1 1522 [.d M] (.d (.s 1 u),none)) :
  Ca E1 1521 [.d A] (.d (.t [.s 1 u,vI 0]),none):=by
 obtain⟨K,hK,t1,t2,t3⟩:=(h.j (hF.j hU.any)).at 0;obtain⟨qa,qb,qc,qd,qf,qg,qh,rfl⟩:=hA;obtain⟨ma,mb,mc,md,mf,mg,mh,rfl⟩:=hM;refine Ca.bO (n:=K+100) ?_;rw[aB rfl (k1521:E1.fn _=_) rfl];clear h hF hU;unfold gI at*;simp[f1521,t1,t2,t3,lY]
end Fi.S
noncomputable section
namespace Fi.S
open Go Fi
set_option maxHeartbeats 8000000
set_option maxRecDepth 10000
variable {α:Type} {e:α->W}
def dZ (kk:Int)(ps:List Int)(sy c:Int)(pI pF px:FV):ai:=.box [dI kk,.d (.s 1 (LK .i64 ps)),dI sy,dI c,pI,pF,px]
def KL (kk:Int)(ps:List Int)(sy:Int)(c:Nat)(is fs:List D)(pI pF:FV)(R:List ai):Prop :=
 is.length=c/\fs.length=c/\((c=0/\pI=.d (.n 8)/\pF=.d (.n 8)/\R=[])\/∃ v,pI=.ls (.loc 4) v 8 0 c/\pF=.ls (.loc 5) v 8 0 c/\R=[.row v 8 is,.row v 8 fs])
def k1L:aF:=f1523.body.r.r.r.l.r.bl.lp
def I9 (m:List D)(L:List ai)(n j:Nat)(t:FV):St :=
 (st0 [.u,.d (.s 1 m),rL 0,rL 1,rL 2,.ls (.loc 3) 0 1 0 n,dI j,.u,.u,t,.u,.u,.u] L)
theorem U4 (kk:Int)(ps:List Int)(sy:Int)(aJ fin:List W)(ak:List D)(m:List Bool)(n:Nat)(hn:n<=1000000)(hm:m.length=n)(hi:aJ.length=n)(hf:fin.length=n)(j:Nat)(hj:j<n)
  (pI pF:FV) (R:List ai) (h:KL kk ps sy (toM m j) ((fB (m.take j) (aJ.take j)).map W.d) ((fB (m.take j) (fin.take j)).map W.d) pI pF R) :
  ∃ pI' pF' R',Ex E1 k1L (I9 (aW m) (aO kk ps sy n (aJ.map W.d) (fin.map W.d) ak::jh::dZ kk ps sy (toM m j:Nat) pI pF (.d (.n 11))::.row 0 1 (nX m j n)::R) n j .u)
   (.norm,I9 (aW m) (aO kk ps sy n (aJ.map W.d) (fin.map W.d) ak::jh::dZ kk ps sy (toM m (j+1):Nat) pI' pF' (.d (.n 11))::.row 0 1 (nX m (j+1) n)::R') n (j+1) .u) /\
   KL kk ps sy (toM m (j+1)) ((fB (m.take (j+1)) (aJ.take (j+1))).map W.d) ((fB (m.take (j+1)) (fin.take (j+1))).map W.d) pI' pF' R':=by
 have hb:m[j]?=some (m[j]'(by omega)):=Qa1 ae;have hx:aJ[j]?=some (aJ[j]'(by omega)):=Qa1 ae;have hy:fin[j]?=some (fin[j]'(by omega)):=Qa1 ae;rw[I6 hb hx,I6 hb hy,BU hb,YS hj hb];have hle:toM m j<=1000000:=by
  have:=uI (m.take j);rw[Ql2]at this;unfold toM;omega
 have hg:=YT m hj;have hl:=YR m (X02 hj);have e1:=kZ hb;have e2:(aJ.map W.d)[j]?=some (aJ[j]'(by omega)).d:=by simp[hx]
 have e3:(fin.map W.d)[j]?=some (fin[j]'(by omega)).d:=by simp[hy]
 have hb1:(aW m).length=n:=by rw[gF,hm]
 have hb2:(aJ.map W.d).length=n:=by simp[hi]
 have hb3:(fin.map W.d).length=n:=by simp[hf]
 rw[Qr0,Qr0];generalize m[j]'(by omega)=b,aJ[j]'(by omega)=x,fin[j]'(by omega)=y at*;have hj0:(0:Int)<=(j:Int):=ae;have hjn:(j:Int)<(n:Int):=ae;have aP:av .i64 ((j:Int)+1)=(j:Int)+1:=wrap_i64 ae;have hk1:((j+1:Nat):Int)=(j:Int)+1:=ae;have hw:av .i64 ((toM m j:Nat)+1:Int)=(toM m j:Nat)+1:=wrap_i64 ae;have hjr:j<(nX m j n).length:=ae;have hj1:j<(aW m).length:=ae;have hj2:j<(aJ.map W.d).length:=ae;have hj3:j<(fin.map W.d).length:=ae;have ig:=idx hg;have i1:=idx e1;have i2:=idx e2;have i3:=idx e3;clear hb hx hy;unfold KL at*;generalize (fB (m.take j) (aJ.take j)).map W.d=is,(fB (m.take j) (fin.take j)).map W.d=fs,nX m j n=V4,toM m j=c,aW m=bs,aJ.map W.d=es,fin.map W.d=gs at*;obtain⟨s,l1,l2,c1,b1,u1,p1,q1,ex⟩:=x.bq;obtain⟨s',Tw,Tx,c1',b1',u1',p1',q1',ey⟩:=y.bq;cases b with
 | false =>
  refine⟨pI,pF,R,Ex.of (n:=200) ?_,?_⟩
  ·unfold I9 dZ jh aO;rw[hk1];generalize LK .i64 ps=l9 at*;simp[k1L,f1523,hj0,hjn,aP,e1,i1,hj1]
  ·simpa using h
 | true =>
  obtain⟨h1,h2,h3⟩:=h;simp only[if_true,Qe1,Qc2];rw[ex]at e2 i2 ⊢;rw[ey]at e3 i3 ⊢;clear ex ey;unfold wD at*;rw[show((c+1:Nat):Int)=(c:Int)+1 by omega];rcases h3 with ⟨rfl,rfl,rfl,rfl⟩|⟨v,rfl,rfl,rfl⟩
  ·obtain rfl:is=[]:=Xf0.1 h1;obtain rfl:fs=[]:=Xf0.1 h2;refine⟨.ls (.loc 4) 0 8 0 1,.ls (.loc 5) 0 8 0 1,_,Ex.of (n:=300) (r:=(.norm,I9 bs (aO kk ps sy n es gs ak::jh::dZ kk ps sy ((0:Nat)+1:Int) (.ls (.loc 4) 0 8 0 1) (.ls (.loc 5) 0 8 0 1) (.d (.n 11))::.row 0 1 (V4.set j (vI (0:Nat)))::[.row 0 8 [.a [vB s,.s 1 l1,.s 1 l2,vI c1,vB b1,.v (.int .u64 u1),.s 6 p1,.s 8 q1]],.row 0 8 [.a [vB s',.s 1 Tw,.s 1 Tx,vI c1',vB b1',.v (.int .u64 u1'),.s 6 p1',.s 8 q1']]]) n (j+1) .u)) ?_,rfl,rfl,.inr ⟨0,rfl,rfl,rfl⟩⟩;unfold I9 dZ jh aO;rw[hk1];generalize LK .i64 ps=l9 at*;rw[show((0:Nat):Int)=0 from rfl]at*;have hw1:av .i64 1=1:=wrap_i64 ae;simp (maxSteps:=400000) [k1L,f1523,I_,jr,checked,iQ,vR,Ref.abs,hj0,hjn,aP,e1,e2,e3,i1,i2,i3,ig,hg,hj1,hj2,hj3,hjr,hw,hw1,most,hb1,hb2,hb3]
  ·have k1:is.take c=is:=by rw[<-h1,Qj0]
   have k2:fs.take c=fs:=by rw[<-h2,Qj0]
   have m1:(c+1)*128<=most:=by unfold most;omega
   have m2:c+1<=most:=by unfold most;omega
   refine⟨.ls (.loc 4) (v+1) 8 0 (c+1),.ls (.loc 5) (v+1) 8 0 (c+1),_,Ex.of (n:=300) (r:=(.norm,I9 bs (aO kk ps sy n es gs ak::jh::dZ kk ps sy ((c:Int)+1) (.ls (.loc 4) (v+1) 8 0 (c+1)) (.ls (.loc 5) (v+1) 8 0 (c+1)) (.d (.n 11))::.row 0 1 (V4.set j (vI c))::[.row (v+1) 8 (is++[.a [vB s,.s 1 l1,.s 1 l2,vI c1,vB b1,.v (.int .u64 u1),.s 6 p1,.s 8 q1]]),.row (v+1) 8 (fs++[.a [vB s',.s 1 Tw,.s 1 Tx,vI c1',vB b1',.v (.int .u64 u1'),.s 6 p1',.s 8 q1']])]) n (j+1) .u)) ?_,by simp[h1],by simp[h2],.inr ⟨v+1,rfl,rfl,rfl⟩⟩;unfold I9 dZ jh aO;rw[hk1];simp (maxSteps:=400000) [k1L,f1523,I_,jr,checked,iQ,vR,Ref.abs,hj0,hjn,aP,e1,e2,e3,i1,i2,i3,ig,hg,hj1,hj2,hj3,hjr,hw,h1,h2,k1,k2,m1,m2,hb1,hb2,hb3]
theorem YX (kk:Int)(ps:List Int)(sy:Int)(aJ fin:List W)(ak:List D)(m:List Bool)(n:Nat)(hn:n<=1000000)(hm:m.length=n)(hi:aJ.length=n)(hf:fin.length=n) :
  ∃ pI pF R,Ex E1 (.loop k1L) (I9 (aW m) (aO kk ps sy n (aJ.map W.d) (fin.map W.d) ak::jh::dZ kk ps sy (toM m 0:Nat) (.d (.n 8)) (.d (.n 8)) (.d (.n 11))::.row 0 1 (nX m 0 n)::[]) n 0 .u)
   (.exit 0,I9 (aW m) (aO kk ps sy n (aJ.map W.d) (fin.map W.d) ak::jh::dZ kk ps sy (cnt m:Nat) pI pF (.d (.n 11))::.row 0 1 (nX m n n)::R) n n (dB false))/\KL kk ps sy (cnt m) ((fB m aJ).map W.d) ((fB m fin).map W.d) pI pF R:=by
 have hc:toM m n=cnt m:=by unfold toM;rw[Qe0 ae]
 obtain⟨r,h3,pI,pF,R,h4,h5⟩:=Ex.inv (E:=E1) (b:=k1L) (fun a:Nat × FV × FV × List ai=>I9 (aW m) (aO kk ps sy n (aJ.map W.d) (fin.map W.d) ak::jh::dZ kk ps sy (toM m a.1:Nat) a.2.1 a.2.2.1 (.d (.n 11))::.row 0 1 (nX m a.1 n)::a.2.2.2) n a.1 .u) (fun a=>n-a.1)
  (fun a=>a.1<=n/\KL kk ps sy (toM m a.1) ((fB (m.take a.1) (aJ.take a.1)).map W.d) ((fB (m.take a.1) (fin.take a.1)).map W.d) a.2.1 a.2.2.1 a.2.2.2)
  (fun r=>∃ pI pF R,r=(.exit 0,I9 (aW m) (aO kk ps sy n (aJ.map W.d) (fin.map W.d) ak::jh::dZ kk ps sy (cnt m:Nat) pI pF (.d (.n 11))::.row 0 1 (nX m n n)::R) n n (dB false))/\KL kk ps sy (cnt m) ((fB m aJ).map W.d) ((fB m fin).map W.d) pI pF R) (fun a ⟨g0,g1⟩=>by
   obtain⟨j,pI,pF,R⟩:=a;simp only at g0 g1 ⊢;rcases Qg2 j n with h|h
   ·obtain⟨pI',pF',R',k1,k2⟩:=U4 kk ps sy aJ fin ak m n hn hm hi hf j h pI pF R g1;exact .inl ⟨(j+1,pI',pF',R'),k1,by simp only;omega,by simp only;omega,k2⟩
   ·obtain rfl:j=n:=ae;rw[I7 hm hi,I7 hm hf,hc]at g1;refine .inr ⟨_,Ex.of (n:=60) (r:=(.exit 0,I9 (aW m) (aO kk ps sy j (aJ.map W.d) (fin.map W.d) ak::jh::dZ kk ps sy (toM m j:Nat) pI pF (.d (.n 11))::.row 0 1 (nX m j j)::R) j j (dB false))) ?_,aC,pI,pF,R,by rw[hc],g1⟩;unfold I9 aO;generalize aJ.map W.d=x1,fin.map W.d=x2 at*;simp[k1L,f1523]) (0,.d (.n 8),.d (.n 8),[]) ⟨Qy1 _,by simp[fB,toM,cnt],by simp[fB,toM,cnt],.inl ⟨rfl,rfl,rfl,rfl⟩⟩
 subst h4;exact⟨pI,pF,R,h3,h5⟩
def Pq (r:Nat)(px:FV)(T:List ai)(aq:List D):Prop:=(px=.d (.n 11)/\aq=[])\/∃ i az,r<=i/\px=.ls (.loc (i+4)) az 11 0 aq.length/\T[i]?=some (.row az 11 aq)
def ZZ:aF:=f1523.body.r.r.r.r.l.r.bl.lp
def JD (m:List D)(L:List ai)(n j:Nat)(t:FV):St :=
 (st0 [.u,.d (.s 1 m),rL 0,rL 1,rL 2,.ls (.loc 3) 0 1 0 n,.u,dI j,.u,.u,.u,t,.u] L)
theorem U5 (kk:Int)(ps:List Int)(sy st:Int)(aJ fin:List D)(k0:Int)(pI pF:FV)(m:List Bool)(n:Nat)(hn:n<=1000000)(hm:m.length=n)(ak:List (Ar α))(h3:ak.length<=1000000)(r:Nat)(T:List ai)(hr:r<=T.length)(px:FV)(aq:List D)(hlen:aq.length<=1000000)
  (ho:Pq r px T aq) (j f t:Nat) (a:Ar α) (ha:ak[j]?=some a) (hf:a.f=(f:Int)) (hat:a.t=(t:Int)) (hfn:f<n) (htn:t<n) :
  ∃ vQ T',Ex E1 ZZ (JD (aW m) (aO kk ps sy st aJ fin (ak.map (Ar.d e))::jh::dZ kk ps sy k0 pI pF px::.row 0 1 (nX m n n)::T) n j .u)
   (.norm,JD (aW m) (aO kk ps sy st aJ fin (ak.map (Ar.d e))::jh::dZ kk ps sy k0 pI pF vQ::.row 0 1 (nX m n n)::T') n (j+1) .u)/\r<=T'.length/\(∀ k,k<r->T'[k]?=T[k]?)/\Pq r vQ T' (if stay m a then aq++[(FU m a).d e] else aq):=by
 have hj:j<ak.length:=(aS ha)
 have hj0:(0:Int)<=(j:Int):=ae;have aP:av .i64 ((j:Int)+1)=(j:Int)+1:=wrap_i64 ae;have hk1:((j+1:Nat):Int)=(j:Int)+1:=ae;have e1:(ak.map (Ar.d e))[j]?=some (a.d e):=by simp[ha]
 have f0:(0:Int)<=(f:Int):=ae;have t0:(0:Int)<=(t:Int):=ae;have fn:(f:Int)<(n:Int):=ae;have tn:(t:Int)<(n:Int):=ae;have bf:m[f]?=some (m[f]'(by omega)):=Qa1 ae;have bt:m[t]?=some (m[t]'(by omega)):=Qa1 ae;have hst:stay m a=(m[f]'(by omega)&&m[t]'(by omega)):=by
  unfold stay;rw[hf,hat,Xd2,Xd2,Qs0,Qs0,bf,bt];rfl
 have b1:=kZ bf;have b2:=kZ bt;have hbl:(aW m).length=n:=by rw[gF,hm]
 have k1:m[f]'(by omega)=true->(nX m n n)[f]?=some (vI (toM m f:Nat)):=fun h=>UZ hfn (by rw[bf,h])
 have k2:m[t]'(by omega)=true->(nX m n n)[t]?=some (vI (toM m t:Nat)):=fun h=>UZ htn (by rw[bt,h])
 generalize m[f]'(by omega)=x1,m[t]'(by omega)=x2 at*;have m3:(aq.length+1)*152<=most:=by unfold most;omega
 have m4:aq.length+1<=most:=by unfold most;omega
 have sA:∀ b b':ai,(T++[b]).set T.length b'=T++[b']:=fun b b'=>by simp
 have hg:∀ b:ai,(T++[b])[T.length]?=some b:=fun b=>by simp
 obtain⟨s,w1,w3,c,b,u',q,ps',ew,ed⟩:=a.dP e;have Uj:(FU m a).d e=mM (toM m f:Nat) a.l (toM m t:Nat) s w1 w3 c b u' q ps':=by
  obtain⟨f',l',t',x'⟩:=a;simp only at hf hat ew;subst hf hat;unfold FU Ar.mv Ar.d mM at*;simp only[Xd2];rw[ew];rfl
 rw[Uj,hst];rw[ed,hf,hat]at e1;unfold mM at*;clear ew ed Uj bf bt hst;unfold dZ jh aO at*;generalize ak.map (Ar.d e)=x3,nX m n n=V4,toM m f=kf,toM m t=kt,aW m=bs at*;have i1:=idx e1;have dw:j<x3.length:=(aS e1)
 have hjl:(j:Int)<(x3.length:Int):=ae;have i4:=idx b1;have i5:=idx b2;have q1:f<bs.length:=(aS b1)
 have q2:t<bs.length:=(aS b2)
 have fb:(f:Int)<(bs.length:Int):=ae;have tb:(t:Int)<(bs.length:Int):=ae
 by_cases hx:(x1&&x2)=true
 ·obtain⟨rfl,rfl⟩:x1=true/\x2=true:=by simpa using hx
  rw[if_pos hx];replace k1:=k1 rfl;replace k2:=k2 rfl;have i6:=idx k1;have i7:=idx k2;have q3:f<V4.length:=(aS k1)
  have q4:t<V4.length:=(aS k2)
  rcases ho with ⟨rfl,rfl⟩|⟨i,az,h5,rfl,h7⟩
  ·refine⟨.ls (.loc (T.length+1+4)) 0 11 0 1,T++[.box [dI f,dI a.l,dI t,dB s,.d (.s 1 w1),.d (.s 1 w3),dI c,dB b,.d (.v (.int .u64 u')),.d (.s 6 q),.d (.s 8 ps')],.row 0 11 [.a [vI kf,vI a.l,vI kt,vB s,.s 1 w1,.s 1 w3,vI c,vB b,.v (.int .u64 u'),.s 6 q,.s 8 ps']]],Ex.of (n:=400) ?_,by simp;omega,fun k hk => ?_,.inr ⟨T.length+1,0,ae,rfl,?_⟩⟩
   ·unfold JD;rw[hk1];simp (maxSteps:=400000) [ZZ,f1523,hj0,hjl,dw,aP,f0,t0,fn,tn,fb,tb,e1,b1,b2,k1,k2,i1,i4,i5,i6,i7,q1,q2,q3,q4,hg,sA,most]
   ·rw[Qa0 ae]
   ·rw[Qb1 aC];simp
  ·have hil:i<T.length:=(aS h7)
   have gi:∀ X,(T++X)[i]?=some (.row az 11 aq):=fun X=>by rw[Qa0 hil];exact h7
   have si:∀ X r,(T++X).set i r=T.set i r++X:=fun X r=>Qq1 _ _ hil
   have TE:aq.take aq.length=aq:=Qj0;have i8:=fun X=>idx (gi X)
   refine⟨.ls (.loc (i+4)) (az+1) 11 0 (aq.length+1),T.set i (.row (az+1) 11 (aq++[.a [vI kf,vI a.l,vI kt,vB s,.s 1 w1,.s 1 w3,vI c,vB b,.v (.int .u64 u'),.s 6 q,.s 8 ps']]))++[.box [dI f,dI a.l,dI t,dB s,.d (.s 1 w1),.d (.s 1 w3),dI c,dB b,.d (.v (.int .u64 u')),.d (.s 6 q),.d (.s 8 ps')]],Ex.of (n:=400) ?_,by simp;omega,fun k hk => ?_,.inr ⟨i,az+1,h5,aC,?_⟩⟩
   ·unfold JD;rw[hk1];simp (maxSteps:=400000) [ZZ,f1523,hj0,hjl,dw,aP,f0,t0,fn,tn,fb,tb,e1,b1,b2,k1,k2,i1,i4,i5,i6,i7,i8,q1,q2,q3,q4,gi,h7,hg,sA,si,hil,TE,m3,m4]
   ·rw[Qa0 (by simp;omega),Qc0 ae]
   ·rw[Qa0 (by simpa using hil),Qd0 hil]
 ·rw[if_neg hx];refine⟨px,T++[.box [dI f,dI a.l,dI t,dB s,.d (.s 1 w1),.d (.s 1 w3),dI c,dB b,.d (.v (.int .u64 u')),.d (.s 6 q),.d (.s 8 ps')]],Ex.of (n:=400) ?_,by simp;omega,fun k hk=>by rw[Qa0 ae],?_⟩
  ·unfold JD;rw[hk1];cases x1 with
   | false=>simp (maxSteps:=400000) [ZZ,f1523,hj0,hjl,dw,aP,f0,t0,fb,tb,e1,b1,b2,i1,i4,i5,q1,q2,hg,sA]
   | true =>
    obtain rfl:x2=false:=by simpa using hx
    simp (maxSteps:=400000) [ZZ,f1523,hj0,hjl,dw,aP,f0,t0,fb,tb,e1,b1,b2,i1,i4,i5,q1,q2,hg,sA]
  ·rcases ho with h|⟨i,az,h5,h6,h7⟩
   ·exact .inl h
   ·exact .inr ⟨i,az,h5,h6,by rw[Qa0 (aS h7)];exact h7⟩
theorem YY (kk:Int)(ps:List Int)(sy st:Int)(aJ fin:List D)(k0:Int)(pI pF:FV)(m:List Bool)(n:Nat)(hn:n<=1000000)(hm:m.length=n)(ak:List (Ar α))(h3:ak.length<=100000)(hin:∀ a ∈ ak,(0<=a.f/\a.f<n)/\(0<=a.t/\a.t<n))(R:List ai) :
  ∃ px T,Ex E1 (.loop ZZ) (JD (aW m) (aO kk ps sy st aJ fin (ak.map (Ar.d e))::jh::dZ kk ps sy k0 pI pF (.d (.n 11))::.row 0 1 (nX m n n)::R) n 0 .u)
   (.exit 2,JD (aW m) (aO kk ps sy st aJ fin (ak.map (Ar.d e))::jh::dZ kk ps sy k0 pI pF px::.row 0 1 (nX m n n)::T) n ak.length (dB false))/\(∀ k,k<R.length->T[k]?=R[k]?)/\Pq R.length px T ((oC m ak).map (Ar.d e)):=by
 obtain⟨r,h1,px,T,rfl,g0,g3⟩:=Ex.fold (E:=E1) (b:=ZZ) ak (fun(p:List D) a=>if stay m a then p++[(FU m a).d e] else p) []
  (fun j aq st'=>aq.length<=j/\∃ px T,st'=JD (aW m) (aO kk ps sy st aJ fin (ak.map (Ar.d e))::jh::dZ kk ps sy k0 pI pF px::.row 0 1 (nX m n n)::T) n j .u/\R.length<=T.length/\(∀ k,k<R.length->T[k]?=R[k]?)/\Pq R.length px T aq)
  (fun aq r=>∃ px T,r=(.exit 2,JD (aW m) (aO kk ps sy st aJ fin (ak.map (Ar.d e))::jh::dZ kk ps sy k0 pI pF px::.row 0 1 (nX m n n)::T) n ak.length (dB false))/\(∀ k,k<R.length->T[k]?=R[k]?)/\Pq R.length px T aq)
  (fun j a st' ha ⟨hlen,px,T,hst,q0,q1,q4⟩=>by
   subst hst;have hj:j<ak.length:=(aS ha)
   obtain⟨⟨a1,a2⟩,a3,a4⟩:=hin a (Qb2 ha);obtain⟨vQ,T',r1,r2,r3,r6⟩:=U5 (e:=e) kk ps sy st aJ fin k0 pI pF m n hn hm ak ae R.length T q0 px _ ae q4 j a.f.toNat a.t.toNat a ha ae ae ae ae;refine⟨_,r1,?_,vQ,T',rfl,r2,fun k hk=>(r3 k hk).trans (q1 k hk),r6⟩;split
   ·rw[Qb0,Q12];omega
   ·omega)
  (fun st' ⟨hlen,px,T,hst,q0,q1,q4⟩=>by
   subst hst;have n3:(ak.map (Ar.d e)).length=ak.length:=aC;refine⟨_,Ex.of (n:=60) (r:=(.exit 2,JD (aW m) (aO kk ps sy st aJ fin (ak.map (Ar.d e))::jh::dZ kk ps sy k0 pI pF px::.row 0 1 (nX m n n)::T) n ak.length (dB false))) ?_,aC,px,T,rfl,q1,q4⟩;unfold JD aO;rw[<-n3];generalize ak.map (Ar.d e)=x3 at*;simp[ZZ,f1523])
  (st:=JD (aW m) (aO kk ps sy st aJ fin (ak.map (Ar.d e))::jh::dZ kk ps sy k0 pI pF (.d (.n 11))::.row 0 1 (nX m n n)::R) n 0 .u) ⟨Qd1 _,.d (.n 11),R,rfl,Qd1 _,fun _ _=>rfl,.inl ⟨rfl,rfl⟩⟩
 rw[BV,Qn0]at g3;exact⟨px,T,h1,g0,g3⟩
theorem YZ (kk:Int)(ps:List Int)(sy:Int)(aJ fin:List W)(m:List Bool)(n:Nat)(hn:n<=1000000)(hm:m.length=n)(hi:aJ.length=n)(hf:fin.length=n)(ak:List (Ar α))(h3:ak.length<=100000)(hin:∀ a ∈ ak,(0<=a.f/\a.f<n)/\(0<=a.t/\a.t<n)) :
  Ca E1 1523 [.d (mR kk ps sy n aJ fin e ak),.d (.s 1 (aW m))] (.d (mR kk ps sy (cnt m:Nat) (fB m aJ) (fB m fin) e (oC m ak)),none):=by
 obtain⟨pI,pF,R,h1,hk⟩:=YX kk ps sy aJ fin (ak.map (Ar.d e)) m n hn hm hi hf;obtain⟨px,T,h2,hT,ho⟩:=YY (e:=e) kk ps sy n (aJ.map W.d) (fin.map W.d) (cnt m:Nat) pI pF m n hn hm ak h3 hin R;have z0:nX m 0 n=List.replicate n (vI 0):=by simp[nX]
 have hbx:aO kk ps sy n (aJ.map W.d) (fin.map W.d) (ak.map (Ar.d e))=.box [dI kk,.d (.s 1 (LK .i64 ps)),dI sy,dI n,.d (.s 8 (aJ.map W.d)),.d (.s 8 (fin.map W.d)),.d (.s 11 (ak.map (Ar.d e)))]:=rfl;generalize hb:aO kk ps sy n (aJ.map W.d) (fin.map W.d) (ak.map (Ar.d e))=bx at*;have sA:Ex E1 f1523.body.l (st0 (.d (mR kk ps sy n aJ fin e ak)::.d (.s 1 (aW m))::Gt) []) (.norm,(st0 (.u::.d (.s 1 (aW m))::rL 0::rL 1::CK) [bx,jh])):=by
  apply e6;clear h1 h2;rw[hbx];unfold mR gI jh;simp[f1523]
 have sB := nx sA f1523.body.r.l (st0 (.u::.d (.s 1 (aW m))::rL 0::rL 1::rL 2::zf) [bx,jh,dZ kk ps sy (toM m 0:Nat) (.d (.n 8)) (.d (.n 8)) (.d (.n 11))]) (by
  apply e6;clear h1 h2;rw[hbx,show toM m 0=0 from rfl,show((0:Nat):Int)=0 from rfl];unfold dZ jh;simp[f1523])
 have sC := nx sB f1523.body.r.r.l (st0 (.u::.d (.s 1 (aW m))::rL 0::rL 1::rL 2::.ls (.loc 3) 0 1 0 n::nO) [bx,jh,dZ kk ps sy (toM m 0:Nat) (.d (.n 8)) (.d (.n 8)) (.d (.n 11)),.row 0 1 (nX m 0 n)]) (by
  apply e6;have n1:(n:Int)*8<=(most:Int):=by unfold most;omega
  have n3:n<=most:=by unfold most;omega
  have n4:(n:Int)<=(most:Int):=ae;clear h1 h2;rw[z0,hbx];generalize dZ kk ps sy (toM m 0:Nat) (.d (.n 8)) (.d (.n 8)) (.d (.n 11))=kb at*;simp[f1523,n1,n3,n4])
 have sD := nx sC f1523.body.r.r.r.l.l (I9 (aW m) (bx::jh::dZ kk ps sy (toM m 0:Nat) (.d (.n 8)) (.d (.n 8)) (.d (.n 11))::.row 0 1 (nX m 0 n)::[]) n 0 .u) (by
  apply e6;clear h1 h2;unfold I9;rw[show((0:Nat):Int)=0 from rfl];simp[f1523])
 have sE:Ex E1 f1523.body.r.r.r.r.l.l (I9 (aW m) (bx::jh::dZ kk ps sy (cnt m:Nat) pI pF (.d (.n 11))::.row 0 1 (nX m n n)::R) n n (dB false))
   (.norm,JD (aW m) (bx::jh::dZ kk ps sy (cnt m:Nat) pI pF (.d (.n 11))::.row 0 1 (nX m n n)::R) n 0 .u):=by
  apply e6;clear h1 h2;unfold I9 JD;rw[show((0:Nat):Int)=0 from rfl];simp[f1523]
 have sF:∃ st',Ex E1 f1523.body.r.r.r.r.r (JD (aW m) (bx::jh::dZ kk ps sy (cnt m:Nat) pI pF px::.row 0 1 (nX m n n)::T) n ak.length (dB false)) (.ret,st')/\finish f1523 st'=some (.d (mR kk ps sy (cnt m:Nat) (fB m aJ) (fB m fin) e (oC m ak)),none):=by
  clear h1 h2 sA sB sC sD sE hbx;unfold JD jh dZ mR gI KL Pq at*;generalize (oC m ak).map (Ar.d e)=q3,ak.map (Ar.d e)=x3,(fB m aJ).map W.d=x4,(fB m fin).map W.d=x5,aW m=bs,nX m n n=V4,cnt m=c at*;obtain⟨hk1,hk2,hk⟩:=hk;have r1:f1523.res=[.cell 3 true 7]:=rfl;have r2:f1523.ref=false:=rfl;rcases hk with ⟨rfl,rfl,rfl,rfl⟩|⟨v,rfl,rfl,rfl⟩
  ·obtain rfl:x4=[]:=Xf0.1 hk1;obtain rfl:x5=[]:=Xf0.1 hk2;rcases ho with ⟨rfl,rfl⟩|⟨i,az,h5,rfl,h7⟩
   ·refine⟨_,Ex.of (n:=200) (by simp[f1523];rfl),?_⟩;simp[finish,r1,r2]
   ·have il:i<T.length:=(aS h7)
    have i7:=idx h7;refine⟨_,Ex.of (n:=200) (by simp[f1523,h7,i7,il];rfl),?_⟩;simp[finish,r1,r2,h7,i7,il,ai.view]
  ·have t0:T[0]?=some (.row v 8 x4):=hT 0 aC;have t1:T[1]?=some (.row v 8 x5):=hT 1 aC;have l0:0<T.length:=(aS t0)
   have l1:1<T.length:=(aS t1)
   have j0:=idx t0;have j1:=idx t1;have a4:x4.take c=x4:=by rw[<-hk1,Qj0]
   have a5:x5.take c=x5:=by rw[<-hk2,Qj0]
   rcases ho with ⟨rfl,rfl⟩|⟨i,az,h5,rfl,h7⟩
   ·refine⟨_,Ex.of (n:=200) (by simp[f1523];rfl),?_⟩;simp[finish,r1,r2,ai.view,t0,t1,l0,l1,j0,j1,a4,a5,hk1,hk2]
   ·have il:i<T.length:=(aS h7)
    have i7:=idx h7;refine⟨_,Ex.of (n:=200) (by simp[f1523,h7,i7,il];rfl),?_⟩;have h6:2<=i:=h5;have i9:∀ (a b:ai) (h:i<((T.set 0 a).set 1 b).length),((T.set 0 a).set 1 b)[i]=.row az 11 q3:=fun a b h=>by
     rw[List.getElem_set_ne ae,List.getElem_set_ne ae];exact i7 il
    simp[finish,r1,r2,h7,i7,i9,il,ai.view,t0,t1,l0,l1,j0,j1,a4,a5,hk1,hk2]
 obtain⟨st',e1,e2⟩:=sF;exact Ca.body (o:=.ret) rfl (aN 1523 f1523:E1.fn _=_) rfl (sA.seq (sB.seq (sC.seq (Ex.seq (sD.seq (Ex.block h1)) (Ex.seq (sE.seq (Ex.block h2)) e1))))) aC e2
theorem FY (A:D)(hA:∃ a b c d f g h,A=gI a b c d f g h)(h:Ca E1 1020 [.d A] (dB false,none)):Ca E1 1520 [.d A] (.d (.t [ZQ,vI 4]),none):=by
 obtain⟨N,t⟩:=h.get;obtain⟨qa,qb,qc,qd,qf,qg,qh,rfl⟩:=hA;refine Ca.bO (n:=N+100) ?_;rw[aB rfl (k1520:E1.fn _=_) rfl];unfold ZQ gI at*;have e0:LK .i64 []=[]:=rfl;rw[e0];simp[f1520,t,lY]
theorem Ja (A M N:D)(u:List D)(hA:∃ a b c d f g h,A=gI a b c d f g h)(hM:∃ a b c d f g h,M=gI a b c d f g h)(hN:∃ a b c d f g h,N=gI a b c d f g h)(h:Ca E1 1020 [.d A] (dB true,none))(hF:Ca E1 1044 [.d A] (.d M,none))(hU:Ca E1 1522 [.d M] (.d (.s 1 u),none))(hK:Ca E1 1523 [.d M,.d (.s 1 u)] (.d N,none)) :
  Ca E1 1520 [.d A] (.d (.t [N,vI 0]),none):=by
 obtain⟨K,hKK,t1,t2,t3,t4⟩:=(h.j (hF.j (hU.j hK.any))).at 0;obtain⟨qa,qb,qc,qd,qf,qg,qh,rfl⟩:=hA;obtain⟨ma,mb,mc,md,mf,mg,mh,rfl⟩:=hM;obtain⟨na,nb,nc,nd,nf,ng,nh,rfl⟩:=hN;refine Ca.bO (n:=K+100) ?_;rw[aB rfl (k1520:E1.fn _=_) rfl];clear h hF hU hK hKK;unfold gI at*;simp[f1520,t1,t2,t3,t4,lY]
end Fi.S
noncomputable section
namespace Fi.S
open Go Fi
set_option maxHeartbeats 8000000
set_option maxRecDepth 10000
def V5 (us:List D)(j:Nat)(t:FV)(L:List ai):St :=
 (st0 [.u,.u,.u,.d (.s 1 us),.u,.d (.s 1 us),.u,.u,.u,.u,.u,dI j,.u,.u,t,.u] L)
def tuL:aF:=f1501.body.r.r.r.r.r.r.r.l.r.bl.lp
theorem Y0 (us:List Bool)(hn:us.length<=1000000)(L:List ai):Ex E1 (.loop tuL) (V5 (aW us) 0 .u L) (.exit 0,V5 (aW us) us.length (dB false) L):=by
 obtain⟨r,h1,h2⟩:=Ex.inv (E:=E1) (b:=tuL) (fun j:Nat=>V5 (aW us) j .u L) (fun j=>us.length-j) (fun j=>j<=us.length) (fun r=>r=(.exit 0,V5 (aW us) us.length (dB false) L)) (fun j hj=>by
  have hbl:=gF us;rcases Qg2 j us.length with h|h
  ·refine .inl ⟨j+1,?_,ae,ae⟩;have e1:=kZ (Qa1 h);generalize us[j]=b at*;have hj0:(0:Int)<=(j:Int):=ae;have aP:av .i64 ((j:Int)+1)=(j:Int)+1:=wrap_i64 ae;have hk1:((j+1:Nat):Int)=(j:Int)+1:=ae;generalize aW us=bs at*;have i1:=idx e1;have dw:j<bs.length:=ae;have hjl:(j:Int)<(bs.length:Int):=ae;refine Ex.of (n:=200) ?_;unfold V5;rw[hk1];simp[tuL,f1501,hj0,dw,hjl,aP,e1,i1]
  ·obtain rfl:j=us.length:=ae;refine .inr ⟨_,Ex.of (n:=60) ?_,aC,rfl⟩;unfold V5;rw[<-hbl];generalize aW us=bs at*;simp[tuL,f1501]) 0 (Qy1 _)
 subst h2;exact h1
theorem Lf (A M:D)(us:List Bool)(er:Int)(hA:∃ a b c d f g h,A=gI a b c d f g h)(hM:∃ a b c d f g h,M=gI a b c d f g h)(hn:us.length<=1000000)
  (h0:Ca E1 1504 [] (dB true,none)) (h1:Ca E1 1023 [.d A] (dB true,none))
  (h2:Ca E1 1506 [.d A] (.d (.t [.s 1 (aW us),vI er]),none)) (h3:Ca E1 1521 [.d A] (.d (.t [.s 1 (aW us),vI er]),none))
  (h4:Ca E1 1505 [.d A] (.d (.t [M,vI er]),none)) (h5:Ca E1 1520 [.d A] (.d (.t [M,vI er]),none)) (h6:Ca E1 1014 [.d M,.d M] (dB true,none)) :
  Ca E1 1501 [.d A] (dB true,none):=by
 obtain⟨K,hK,t0,t1,t2,t3,t4,t5,t6⟩:=(h0.j (h1.j (h2.j (h3.j (h4.j (h5.j h6.any)))))).at 0;clear h0 h1 h2 h3 h4 h5 h6 hK;have hL:=Y0 us hn;generalize us.length=c,aW us=bs at*;obtain⟨qa,qb,qc,qd,qf,qg,qh,rfl⟩:=hA;obtain⟨ma,mb,mc,md,mf,mg,mh,rfl⟩:=hM;obtain⟨ab,hab⟩:∃ ab,ab=aO qa qb qc qd qf qg qh:=⟨_,rfl⟩
 obtain⟨bb,hbb⟩:∃ bb,bb=aO ma mb mc md mf mg mh:=⟨_,rfl⟩
 have sA:Ex E1 f1501.body.l (st0 (.d (gI qa qb qc qd qf qg qh)::aai) [])
   (.norm,(st0 (.u::rL 0::JE) [ab])):=by
  apply e6;clear t0 t1 t2 t3 t4 t5 t6 hL;rw[hab];unfold gI aO;simp[f1501]
 have sB := nx sA f1501.body.r.l (st0 [.u,rL 0,.u,.u,.u,.u,.u,.u,.u,.u,.u,.u,dB false,.u,.u,.u] [ab]) (by
  refine Ex.of (n:=K+100) ?_;clear t0 t2 t3 t4 t5 t6 hL sA;rw[hab];unfold aO;unfold gI at*;generalize LK .i64 qb=l8 at*;simp[f1501,t1])
 have sC := nx sB f1501.body.r.r.l (st0 (.u::rL 0::.u::.d (.s 1 bs)::dI er::Gt) [ab]) (by
  refine Ex.of (n:=K+100) ?_;clear t0 t1 t3 t4 t5 t6 hL sA sB;rw[hab];unfold aO;unfold gI at*;generalize LK .i64 qb=l8 at*;simp[f1501,t2])
 have sD := nx sC f1501.body.r.r.r.l (st0 (.u::rL 0::.u::.d (.s 1 bs)::dI er::.d (.s 1 bs)::dI er::CK) [ab]) (by
  refine Ex.of (n:=K+100) ?_;clear t0 t1 t2 t4 t5 t6 hL sA sB sC;rw[hab];unfold aO;unfold gI at*;generalize LK .i64 qb=l8 at*;simp[f1501,t3])
 have sE := nx sD f1501.body.r.r.r.r.l (st0 (.u::rL 0::.u::.d (.s 1 bs)::dI er::.d (.s 1 bs)::dI er::rL 1::dI er::nO) [ab,bb]) (by
  refine Ex.of (n:=K+100) ?_;clear t0 t1 t2 t3 t5 t6 hL sA sB sC sD;rw[hab,hbb];unfold aO;unfold gI at*;generalize LK .i64 qb=l8,LK .i64 mb=l9 at*;simp[f1501,t4])
 have sF := nx sE f1501.body.r.r.r.r.r.l (st0 [.u,.u,.u,.d (.s 1 bs),dI er,.d (.s 1 bs),dI er,rL 1,dI er,rL 2,dI er,.u,.u,.u,.u,.u] [ab,bb,bb]) (by
  refine Ex.of (n:=K+100) ?_;clear t0 t1 t2 t3 t4 t6 hL sA sB sC sD sE;rw[hab,hbb];unfold aO;unfold gI at*;generalize LK .i64 mb=l9 at*;simp[f1501,t5])
 have sG := nx sF f1501.body.r.r.r.r.r.r.l (st0 [.u,.u,.u,.d (.s 1 bs),.u,.d (.s 1 bs),.u,.u,.u,.u,.u,.u,.u,dB false,.u,.u] [ab,bb,bb]) (by
  refine Ex.of (n:=K+100) ?_;clear t0 t1 t2 t3 t4 t5 hL sA sB sC sD sE sF;rw[hbb];unfold aO;unfold gI at*;simp[f1501,t6])
 have sH := nx sG f1501.body.r.r.r.r.r.r.r.l.l (V5 bs 0 .u [ab,bb,bb]) (by
  apply e6;clear t0 t1 t2 t3 t4 t5 t6 hL sA sB sC sD sE sF sG;unfold V5;rw[show((0:Nat):Int)=0 from rfl];simp[f1501])
 have sI:∃ st',Ex E1 f1501.body.r.r.r.r.r.r.r.r (V5 bs c (dB false) [ab,bb,bb]) (.ret,st')/\finish f1501 st'=some (dB true,none):=by
  clear t1 t2 t3 t4 t5 t6 hL sA sB sC sD sE sF sG sH;unfold V5;refine⟨_,Ex.of (n:=K+100) (by simp[f1501,t0];rfl),?_⟩;simp[finish,show f1501.res=[.var 2] from rfl,show f1501.ref=false from rfl]
 obtain⟨st',e1,e2⟩:=sI;exact Ca.body (o:=.ret) rfl (k1501:E1.fn _=_) rfl (sA.seq (sB.seq (sC.seq (sD.seq (sE.seq (sF.seq (sG.seq (Ex.seq (sH.seq (Ex.block (hL _))) e1)))))))) aC e2
theorem Dq (A:D)(hA:∃ a b c d f g h,A=gI a b c d f g h)(h:Ca E1 1024 [.d A] (.d (.t [ZQ,vI 4]),none)):Ca E1 1506 [.d A] (.d (.t [.s 1 [],vI 4]),none):=by
 obtain⟨N,t⟩:=h.get;obtain⟨qa,qb,qc,qd,qf,qg,qh,rfl⟩:=hA;refine Ca.bO (n:=N+100) ?_;rw[aB rfl (k1506:E1.fn _=_) rfl];unfold ZQ gI at*;generalize LK .i64 []=l9 at*;simp[f1506,t,lY]
theorem Lg (A:D)(hA:∃ a b c d f g h,A=gI a b c d f g h)(h:Ca E1 1506 [.d A] (.d (.t [.s 1 [],vI 4]),none)):Ca E1 1505 [.d A] (.d (.t [ZQ,vI 4]),none):=by
 obtain⟨N,t⟩:=h.get;obtain⟨qa,qb,qc,qd,qf,qg,qh,rfl⟩:=hA;refine Ca.bO (n:=N+100) ?_;rw[aB rfl (k1505:E1.fn _=_) rfl];unfold ZQ gI at*;have e0:LK .i64 []=[]:=rfl;rw[e0];simp[f1505,t,lY]
theorem Ps {a:Au}(ha:a.Lit):∃ (us:List Bool) (M:D) (er:Int),us.length<=1000000/\(∃ a b c d f g h,M=gI a b c d f g h)/\Ca E1 1506 [.d a.d] (.d (.t [.s 1 (aW us),vI er]),none)/\Ca E1 1521 [.d a.d] (.d (.t [.s 1 (aW us),vI er]),none) /\
  Ca E1 1505 [.d a.d] (.d (.t [M,vI er]),none)/\Ca E1 1520 [.d a.d] (.d (.t [M,vI er]),none)/\Ca E1 1014 [.d M,.d M] (dB true,none):=by
 obtain⟨v1,v2⟩:=ha.vZ;have hA:∃ q b c d f g h,a.d=gI q b c d f g h:=⟨_,_,_,_,_,_,_,rfl⟩
 cases hv:a.valid with
 | false =>
  rw[hv]at v1 v2;have h1:=Dq a.d hA (Dj _ _ _ _ _ _ _ v1);refine⟨[],ZQ,4,aC,⟨_,_,_,_,_,_,_,rfl⟩,h1,I8 a.d hA v2,Lg a.d hA h1,FY a.d hA v2,?_⟩;rw[ae9 (gN 1)];exact IG 0 [] 0 0 [] [] ([]:List (Ar (List Sv))) aC aC aC aC aC aC aC
 | true =>
  rw[hv]at v1 v2;have hp:=ha.ps;have h16:=ha.ak.1;have hin:=ha.aJ.1;have hfi:=ha.fin.1;have hv0:=hv;unfold Au.valid zi Eh at hv;simp only[Qa2,decide_eq_true_eq,Qf0]at hv;obtain⟨⟨hr,_,_,_,_,akr,aks,_⟩,hc3,hc1,hc2⟩:=hv;obtain⟨xs,e1,g1⟩:=FR hr a.aJ (fun w hw=>⟨(ha.aJ.2 w hw).1,(ha.aJ.2 w hw).2,hc1 w hw⟩);obtain⟨ys,e2,g2⟩:=FR hr a.fin (fun w hw=>⟨(ha.fin.2 w hw).1,(ha.fin.2 w hw).2,hc2 w hw⟩);obtain⟨zs,e3,hz,g3⟩:=MU hr a.ak (fun x hx=>⟨(ha.ak.2 x hx).1,(ha.ak.2 x hx).2,by
   have:=hc3 x hx;unfold mQ at this;simp only[Qa2]at this;exact this.2.2.2.2⟩)
  have hxl:xs.length=a.aJ.length:=by rw[e1];simp
  have hyl:ys.length=a.fin.length:=by rw[e2];simp
  obtain⟨n,hn⟩:∃ n,xs.length=n:=⟨_,rfl⟩
  have hst:a.st=(n:Int):=ae;have hyn:ys.length=n:=ae;have hd:a.d=mR a.kk a.ps a.sy n (xs.map (gN a.kk)) (ys.map (gN a.kk)) (gN a.kk) zs:=by
   unfold Au.d mR;rw[e3,e1,e2,hst]
  have hW:=ahf hr;have ok:∀ {y},rA a.kk a.ps 1 y->(gN a.kk y).OK:=fun h=>Ik hr ae h.2
  have ck:∀ {y},rA a.kk a.ps 1 y->bU a.kk a.ps (gN a.kk y)=true:=fun h=>Bu hr h.2
  -- the dz states
  have Pt:∀ x ∈ zs,(0<=x.f/\x.f<n)/\(0<=x.t/\x.t<n):=by
   have h7:∀ x ∈ a.ak,OM x.f a.st=true/\OM x.t a.st=true:=fun x hx=>by
    have:=hc3 x hx;unfold mQ at this;simp only[Qa2]at this;exact⟨this.1,this.2.1⟩
   have h8:∀ x ∈ zs,∃ y ∈ a.ak,y.f=x.f/\y.t=x.t:=fun x hx=>by
    obtain⟨y,hy,he⟩:=Qj2.1 (e3 ▸ Qj2.2 ⟨x,hx,rfl⟩:x.d (gN a.kk) ∈ a.ak.map (Ar.d id));refine⟨y,hy,?_⟩;unfold Ar.d at he;simp at he;exact⟨he.1,he.2.2.1⟩
   intro x hx;obtain⟨y,hy,f1,f2⟩:=h8 x hx;obtain⟨k1,k2⟩:=h7 y hy;unfold OM at k1 k2;simp only[Qa2,decide_eq_true_eq]at k1 k2;rw[f1]at k1;rw[f2]at k2;omega
  rw[hd]at v1 v2 hA ⊢;obtain⟨l,hl⟩:∃ l,l=nV (kG (lI a.kk a.ps)) (BC a.kk a.ps) zs:=⟨_,rfl⟩
  have hN:=v_ hW a.sy n xs ys zs ae ae ae ae ae g1 g2 g3 v1;have hF:=Yi hW a.sy n xs ys zs ae ae ae ae ae g1 g2 g3;have hlin:∀ x ∈ l,(0<=x.f/\x.f<n)/\(0<=x.t/\x.t<n):=fun x hx=>by
   rw[hl]at hx;obtain⟨b,hb,f1,f2,f3⟩:=(FT (pl:=kG (lI a.kk a.ps)) (l:=zs) x).1 ⟨x,(Xs0.1 hx).1,rfl,rfl,rfl⟩;rw[<-f1,<-f3];exact Pt b hb
  have hll:l.length<=16:=by rw[hl];exact O0 zs 16 ae
  have hlg:∀ x ∈ l,rA a.kk a.ps (1+zs.length) x.x:=fun x hx=>K7 hW zs g3 ae x (hl ▸ hx)
  rw[<-hl]at hN hF;have z1:∀ {y},rA a.kk a.ps 1 y->Ca E1 1104 [.d (bD a.kk a.ps),.d (gN a.kk y).d] (dB (BC a.kk a.ps y),none):=fun h=>hW.z1 1 _ ae h
  have z2:∀ {y},rA a.kk a.ps 1 y->Ca E1 1126 [.d (bD a.kk a.ps),.d (gN a.kk y).d] (dB (BC a.kk a.ps y),none):=fun h=>hW.z2 1 _ ae h
  have hU:=Pk (e:=gN a.kk) (bT:=BC a.kk a.ps) a.sy n xs ys l ae ae ae (fun x hx=>z1 (g1 x hx)) (fun x hx=>z1 (g2 x hx)) (fun x hx=>by rw[hn];exact hlin x hx) _ ⟨_,_,_,_,_,_,_,rfl⟩ hN;have hU9:=YW (e:=gN a.kk) (bT:=BC a.kk a.ps) (kk:=a.kk) (ps:=a.ps) a.sy n xs ys l ae ae ae (fun x hx=>z2 (g1 x hx)) (fun x hx=>z2 (g2 x hx)) (fun x hx=>by rw[hn];exact hlin x hx);have hul:=M3 (BC a.kk a.ps) (aJ:=xs) (fin:=ys) ae l;generalize VZ (BC a.kk a.ps) xs ys l=u at*;have hu:u.length=n:=ae;have hP:=acr (e:=gN a.kk) a.kk a.ps a.sy n (xs.map (gN a.kk)) (ys.map (gN a.kk)) u n ae hu (by simp;omega) (by simp;omega) zs ae Pt;have hK:=YZ (e:=gN a.kk) a.kk a.ps a.sy (xs.map (gN a.kk)) (ys.map (gN a.kk)) u n ae hu (by simp;omega) (by simp;omega) l ae hlin;rw[M6,M6]at hP hK;have q1:∀ x ∈ fB u xs,rA a.kk a.ps 1 x:=fun x hx=>g1 x (zQ hx)
  have q2:∀ x ∈ fB u ys,rA a.kk a.ps 1 x:=fun x hx=>g2 x (zQ hx)
  have q3:∀ x ∈ oC u zs,rA a.kk a.ps 1 x.x:=fun x hx=>by
   obtain⟨b,hb,_,rfl⟩:=zR hx;exact g3 b hb
  have s1:(fB u xs).length<=n:=by have:=UY u xs;omega
  have s2:(fB u ys).length<=n:=by have:=UY u ys;omega
  have s3:(oC u zs).length<=16:=by
   unfold oC;rw[Qk0];exact Qe2 (Q80 ..) ae
  have hv1:zi a.kk a.ps a.sy (n:Int) (xs.map (gN a.kk)) (ys.map (gN a.kk)) (gN a.kk) zs=true:=by
   unfold Au.valid at hv0;unfold zi Eh mQ OM at hv0 ⊢;simp only[Qa2,decide_eq_true_eq,Qf0,Qk0]at hv0 ⊢;obtain⟨⟨a1,a2,a3,a4,a5,a6,a7,a8⟩,_⟩:=hv0;refine⟨⟨a1,a2,a3,ae,ae,ae,ae,ae⟩,fun x hx => ?_,fun w hw => ?_,fun w hw => ?_⟩
   ·obtain⟨y,hy,he⟩:=Qj2.1 (e3 ▸ Qj2.2 ⟨x,hx,rfl⟩:x.d (gN a.kk) ∈ a.ak.map (Ar.d id));have k:=hc3 y hy;unfold mQ at k;simp only[Qa2,decide_eq_true_eq]at k;unfold Ar.d at he;simp at he;obtain⟨f1,f2,f3,_⟩:=he;rw[f2]at k;exact⟨(Pt x hx).1,(Pt x hx).2,k.2.2.1,k.2.2.2.1,ck (g3 x hx)⟩
   ·obtain⟨x,hx,rfl⟩:=Qj2.1 hw;exact ck (g1 x hx)
   ·obtain⟨x,hx,rfl⟩:=Qj2.1 hw;exact ck (g2 x hx)
  have hv2:=Pp hu hn hyn hv1;have vP:=Fi.S.vZ (e:=gN a.kk) a.kk a.ps a.sy (cnt u:Nat) ((fB u xs).map (gN a.kk)) ((fB u ys).map (gN a.kk)) (oC u zs) ae (by simp;omega) (by simp;omega) ae (fun w hw=>by
   obtain⟨x,hx,rfl⟩:=Qj2.1 hw;exact ok (q1 x hx)) (fun w hw=>by
   obtain⟨x,hx,rfl⟩:=Qj2.1 hw;exact ok (q2 x hx)) (fun x hx=>ok (q3 x hx))
  rw[hv2]at vP;have hNP:=v_ hW a.sy (cnt u:Nat) (fB u xs) (fB u ys) (oC u zs) ae ae ae ae ae q1 q2 q3 vP;have hpos:Pos zs:=fun x hx=>⟨(Pt x hx).1.1,(Pt x hx).2.1⟩
  rw[Pm hpos,<-hl]at hNP;have s4:(oC u l).length<=16:=by
   unfold oC;rw[Qk0];exact Qe2 (Q80 ..) hll
  refine⟨u,_,0,ae,⟨_,_,_,_,_,_,_,rfl⟩,hU,Ld _ _ _ hA ⟨_,_,_,_,_,_,_,rfl⟩ v2 hF hU9,acs _ _ _ _ hA ⟨_,_,_,_,_,_,_,rfl⟩ ⟨_,_,_,_,_,_,_,rfl⟩ hU hP hNP,Ja _ _ _ _ hA ⟨_,_,_,_,_,_,_,rfl⟩ ⟨_,_,_,_,_,_,_,rfl⟩ v2 hF hU9 hK,?_⟩;refine IG a.kk a.ps a.sy _ _ _ _ ae (by simp;omega) (by simp;omega) ae (fun w hw => ?_) (fun w hw => ?_) (fun x hx => ?_)
  ·obtain⟨y,hy,rfl⟩:=Qj2.1 hw;exact ok (q1 y hy)
  ·obtain⟨y,hy,rfl⟩:=Qj2.1 hw;exact ok (q2 y hy)
  ·obtain⟨b,hb,_,rfl⟩:=zR hx;exact Ik hr ae (hlg b hb).2
theorem U6 (a:Au)(hta:a.oP)(aw:Ca E1 1504 [] (dB true,none)):Ca E1 1501 [.d a.d] (dB true,none):=by
 have l1:Ca E1 1023 [.d a.d] (dB a.bM,none):=IL a.kk a.ps a.sy a.st a.aJ a.fin a.ak;cases h:a.bM with
 | true =>
  rw[h]at l1;obtain⟨us,M,er,h1,h2,h3,h4,h5,h6,h7⟩:=Ps (Au.lit hta h);exact Lf a.d M us er ⟨_,_,_,_,_,_,_,rfl⟩ h2 h1 aw l1 h3 h4 h5 h6 h7
 | false =>
  rw[h]at l1;obtain⟨K,hK,t1,t3⟩:=(l1.j aw.any).at 0;refine Ca.bO (n:=K+300) ?_;rw[aB rfl (k1501:E1.fn _=_) rfl];unfold Au.d mR gI at*;clear h hta l1 aw hK;generalize LK .i64 a.ps=p1,a.aJ.map W.d=p2,a.fin.map W.d=p3,a.ak.map (Ar.d id)=p4 at*;simp[f1501,t1,t3,lY]
end Fi.S
