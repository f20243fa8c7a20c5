import Derived.Test.YtkekcmgkpdkieaaGreatDoorDE
set_option linter.unusedVariables false
set_option linter.unusedSimpArgs false
noncomputable section
namespace Fi.S
open Go Fi
set_option maxHeartbeats 8000000
set_option maxRecDepth 10000
def fB {β:Type}(m:List Bool)(l:List β):List β:=((l.zip m).filter (·.2)).map (·.1)
def UF (sz:Nat)(out:FV)(L:List ai)(aq:List D):Prop:=(out=.d (.n sz)/\aq=[])\/∃ i az,out=.ls (.loc i) az sz 0 aq.length/\L[i]?=some (.row az sz aq)
def mqL:aF:=f1513.body.r.r.l.r.bl.lp
def M5 (ws:List D)(m:List D)(out:FV)(n j:Nat)(t:FV)(L:List ai):St :=
 (st0 [.u,.d (.s 1 m),.u,out,.u,.u,.d (.s 8 ws),dI n,dI j,t,.u] L)
theorem UG (ws:List W)(m:List Bool)(n j:Nat)(out:FV)(L:List ai)(aq:List D)(x:W)(b:Bool)(hl:ws.length=n)(hn:n<=1000000)(hx:ws[j]?=some x)(hb:m[j]?=some b)(ho:UF 8 out L aq)(has:aq.length<=1000000) :
  ∃ out' L',Ex E1 mqL (M5 (ws.map W.d) (aW m) out n j .u L) (.norm,M5 (ws.map W.d) (aW m) out' n (j+1) .u L')/\UF 8 out' L' (if b then aq++[x.d] else aq):=by
 have hj:j<ws.length:=(aS hx)
 have hj0:(0:Int)<=(j:Int):=ae;have aP:av .i64 ((j:Int)+1)=(j:Int)+1:=wrap_i64 ae;have hk1:((j+1:Nat):Int)=(j:Int)+1:=ae;have hjn:(j:Int)<(n:Int):=ae;have e1:(ws.map W.d)[j]?=some x.d:=by simp[hx]
 have e2:=kZ hb;have sA:∀ c c':ai,(L++[c]).set L.length c'=L++[c']:=fun c c'=>by simp
 have hg:∀ c:ai,(L++[c])[L.length]?=some c:=fun c=>by simp
 obtain⟨s,l2,l3,c,b',u,p,q,ex⟩:=x.bq;rw[ex]at e1 ⊢;clear ex hx hb;unfold wD at*;generalize ws.map W.d=es,aW m=bs at*;have i0:=idx e1;have i1:=idx e2;have dw:j<es.length:=(aS e1)
 have hjb:j<bs.length:=(aS e2)
 cases b with
 | false =>
  refine⟨out,L++[.box [dB s,.d (.s 1 l2),.d (.s 1 l3),dI c,dB b',.d (.v (.int .u64 u)),.d (.s 6 p),.d (.s 8 q)]],Ex.of (n:=300) ?_,?_⟩
  ·unfold M5;rw[hk1];simp[mqL,f1513,hj0,hjn,dw,hjb,aP,e1,e2,i0,i1,sA,hg]
  ·rw[if_neg aC];rcases ho with h|⟨i,az,h1,h2⟩
   ·exact .inl h
   ·exact .inr ⟨i,az,h1,by rw[Qa0 (aS h2)];exact h2⟩
 | true =>
  rcases ho with ⟨rfl,rfl⟩|⟨i,az,rfl,hrow⟩
  ·refine⟨.ls (.loc (L.length+1)) 0 8 0 1,L++[.box [dB s,.d (.s 1 l2),.d (.s 1 l3),dI c,dB b',.d (.v (.int .u64 u)),.d (.s 6 p),.d (.s 8 q)],.row 0 8 [.a [vB s,.s 1 l2,.s 1 l3,vI c,vB b',.v (.int .u64 u),.s 6 p,.s 8 q]]],Ex.of (n:=300) ?_,.inr ⟨L.length+1,0,rfl,by rw[Qb1 ae];simp⟩⟩;unfold M5;rw[hk1];simp[mqL,f1513,hj0,hjn,dw,hjb,aP,e1,e2,i0,i1,sA,hg,most]
  ·have li:i<L.length:=(aS hrow)
   have gi:∀ X,(L++X)[i]?=some (.row az 8 aq):=fun X=>by rw[Qa0 li];exact hrow
   have si:∀ X r,(L++X).set i r=L.set i r++X:=fun X r=>Qq1 _ _ li
   have TE:aq.take aq.length=aq:=Qj0;have m1:(aq.length+1)*128<=1099511627776:=ae;have m2:aq.length+1<=1099511627776:=ae;have ji:=fun X=>idx (gi X)
   refine⟨.ls (.loc i) (az+1) 8 0 (aq.length+1),L.set i (.row (az+1) 8 (aq++[.a [vB s,.s 1 l2,.s 1 l3,vI c,vB b',.v (.int .u64 u),.s 6 p,.s 8 q]]))++[.box [dB s,.d (.s 1 l2),.d (.s 1 l3),dI c,dB b',.d (.v (.int .u64 u)),.d (.s 6 p),.d (.s 8 q)]],Ex.of (n:=300) ?_,.inr ⟨i,az+1,aC,?_⟩⟩
   ·unfold M5;rw[hk1];simp[mqL,f1513,hj0,hjn,dw,hjb,aP,e1,e2,i0,i1,sA,hg,most,gi,si,ji,TE,m1,m2]
   ·rw[Qa0 (by simpa using li),Qd0 li];simp
theorem IW:∀ (l:List (W × Bool)) (p:List D),l.foldl (fun p x=>if x.2 then p++[x.1.d] else p) p=p++((l.filter (·.2)).map (·.1)).map W.d
 | [],p=>by simp
 | (x,b)::l,p=>by
  rw[Qp0,IW l];cases b<;>simp
theorem Ep (ws:List W)(m:List Bool)(hn:ws.length<=1000000)(hm:m.length=ws.length):Ca E1 1513 [.d (.s 8 (ws.map W.d)),.d (.s 1 (aW m))] (.d (.s 8 ((fB m ws).map W.d)),none):=by
 have hzl:(ws.zip m).length=ws.length:=by rw[Xm0];omega
 obtain⟨r,h1,out,L,h2,h3⟩:=Ex.fold (E:=E1) (b:=mqL) (ws.zip m) (fun p x=>if x.2 then p++[x.1.d] else p) ([]:List D)
  (fun j acc st=>∃ out L,st=M5 (ws.map W.d) (aW m) out ws.length j .u L/\UF 8 out L acc/\acc.length<=j)
  (fun acc r=>∃ out L,r=(.exit 0,M5 (ws.map W.d) (aW m) out ws.length ws.length (dB false) L)/\UF 8 out L acc)
  (fun j x st hx ⟨out,L,hst,g1,g2⟩=>by
   subst hst;obtain⟨hj,hx'⟩:=Qm0.1 hx;rw[List.getElem_zip]at hx';subst hx';obtain⟨out',L',k1,k2⟩:=UG ws m ws.length j out L _ ws[j] (m[j]'(by omega)) rfl hn (Qa1 ae) (Qa1 ae) g1 ae;refine⟨_,k1,out',L',rfl,k2,?_⟩;simp only;split
   ·rw[Qb0,Q12];omega
   ·omega)
  (fun st ⟨out,L,hst,g1,g2⟩=>by
   subst hst;rw[hzl];refine⟨_,Ex.of (n:=60) (r:=(.exit 0,M5 (ws.map W.d) (aW m) out ws.length ws.length (dB false) L)) ?_,aC,out,L,rfl,g1⟩;unfold M5;simp[mqL,f1513])
  (st:=M5 (ws.map W.d) (aW m) (.d (.n 8)) ws.length 0 .u []) ⟨_,_,rfl,.inl ⟨rfl,rfl⟩,Qd1 _⟩
 subst h2;rw[IW,Qn0]at h3
 change UF 8 out L ((fB m ws).map W.d) at h3
 have hel:(ws.map W.d).length=ws.length:=aC;generalize (fB m ws).map W.d=rs,ws.map W.d=es,aW m=bs at*;have sA:Ex E1 f1513.body.l (st0 (.d (.s 8 es)::.d (.s 1 bs)::CK) []) (.norm,(st0 (.d (.s 8 es)::.d (.s 1 bs)::CK) [])):=by
  apply e6;simp[f1513]
 have sB := nx sA f1513.body.r.l (st0 (.d (.s 8 es)::.d (.s 1 bs)::.u::.d (.n 8)::nO) []) (by
  apply e6;simp[f1513])
 have sC := nx sB f1513.body.r.r.l.l (M5 es bs (.d (.n 8)) ws.length 0 .u []) (by
  apply e6;unfold M5;simp[f1513,hel])
 have sD:Ex E1 f1513.body.r.r.r (M5 es bs out ws.length ws.length (dB false) L) (.ret,(st0 (.u::.u::out::zf) L)):=by
  apply e6;unfold M5;simp[f1513]
 refine Ca.body (o:=.ret) rfl (aN 1513 f1513:E1.fn _=_) rfl (sA.seq (sB.seq (Ex.seq (sC.seq (Ex.block h1)) sD))) aC ?_;rcases h3 with ⟨rfl,rfl⟩|⟨i,az,rfl,hrow⟩
 ·simp[show f1513.res=[.var 2] from rfl,show f1513.ref=false from rfl]
 ·have h9:ai.view az 8 0 rs.length (.row az 8 rs)=some rs:=by simp[ai.view]
  simp[show f1513.res=[.var 2] from rfl,show f1513.ref=false from rfl,hrow,h9]
end Fi.S
noncomputable section
namespace Fi.S
open Go Fi
set_option maxHeartbeats 8000000
set_option maxRecDepth 10000
variable {α:Type} {e:α->W}
def toM (m:List Bool)(i:Nat):Nat:=cnt (m.take i)
def Ar.mv (a:Ar α)(f t:Int):Ar α:=⟨f,a.l,t,a.x⟩
def stay (m:List Bool)(a:Ar α):Bool:=m.getD a.f.toNat false&&m.getD a.t.toNat false
def FU (m:List Bool)(a:Ar α):Ar α:=a.mv (toM m a.f.toNat) (toM m a.t.toNat)
def oC (m:List Bool)(l:List (Ar α)):List (Ar α):=(l.filter (stay m)).map (FU m)
theorem BU {m:List Bool}{j:Nat}{b:Bool}(h:m[j]?=some b):toM m (j+1)=toM m j+(if b then 1 else 0):=by
 obtain⟨hj,hb⟩:=Qm0.1 h;unfold toM cnt;rw[Qi1 hj,Xl2,Qb0,hb];cases b<;>simp
def u6 (m:List Bool)(j n:Nat):List D:=((List.range j).map fun i=>D.v (.int .i64 (toM m i)))++List.replicate (n-j) (vI 0)
theorem YI (m:List Bool){j n:Nat}(h:j<=n):(u6 m j n).length=n:=by simp[u6];omega
theorem YJ (m:List Bool){j n:Nat}(h:j<n):(u6 m j n).set j (vI (toM m j))=u6 m (j+1) n:=by
 unfold u6;rw[BR _ _ _ _ _ aC h,List.range_succ,Qr0];rfl
theorem YK (m:List Bool){j n:Nat}(h:j<n):(u6 m j n)[j]?=some (vI 0):=by
 unfold u6;rw[Qb1 aC];simp[Qz0];omega
theorem UH (m:List Bool){i n:Nat}(h:i<n):(u6 m n n)[i]?=some (vI (toM m i)):=by
 unfold u6;rw[Qa0 (by simpa using h)];simp[h]
def p1L:aF:=f1512.body.r.r.r.l.r.bl.lp
def Qr (m:List D)(L:List ai)(n j:Nat)(t:FV):St :=
 (st0 [.u,.d (.s 1 m),rL 0,rL 1,rL 2,.ls (.loc 3) 0 1 0 n,.u,.u,.u,.d (.s 1 m),dI n,dI j,t,.u,.u,.u,.u,.u,.u] L)
theorem UI (kk:Int)(ps:List Int)(sy:Int)(aJ fin:List D)(A:ai)(m:List Bool)(n j:Nat)(hn:n<=1000000)(hm:m.length=n)(hj:j<n) :
  Ex E1 p1L (Qr (aW m) [A,jh,cK kk ps sy (toM m j:Nat) aJ fin (.d (.n 11)),.row 0 1 (u6 m j n)] n j .u) (.norm,Qr (aW m) [A,jh,cK kk ps sy (toM m (j+1):Nat) aJ fin (.d (.n 11)),.row 0 1 (u6 m (j+1) n)] n (j+1) .u):=by
 have hb:m[j]?=some (m[j]'(by omega)):=Qa1 ae;have hs:=BU hb;have hle:toM m j<=1000000:=by
  have:=uI (m.take j);rw[Ql2]at this;unfold toM;omega
 have ht:=YJ m hj;have hg:=YK m hj;have hl:=YI m (X02 hj);have e1:=kZ hb;generalize m[j]'(by omega)=b at*;have hj0:(0:Int)<=(j:Int):=ae;have hjn:(j:Int)<(n:Int):=ae;have aP:av .i64 ((j:Int)+1)=(j:Int)+1:=wrap_i64 ae;have hk1:((j+1:Nat):Int)=(j:Int)+1:=ae;have hw:av .i64 ((toM m j:Nat)+1:Int)=(toM m j:Nat)+1:=wrap_i64 ae;have hjr:j<(u6 m j n).length:=ae;have ig:=idx hg;have ib:=idx e1;have hjb:j<(aW m).length:=(aS e1)
 refine Ex.of (n:=200) ?_;unfold Qr cK jh;rw[hk1,hs,<-ht];clear hs ht hb;generalize u6 m j n=V4,toM m j=c,aW m=bs at*;cases b with
 | false=>simp[p1L,f1512,hj0,hjn,aP,hjr,hjb,e1,ig,ib,hg]
 | true =>
  rw[if_pos rfl,show((c+1:Nat):Int)=(c:Int)+1 by omega];simp[p1L,f1512,hj0,hjn,aP,hjr,hjb,e1,ig,ib,hg,hw]
theorem YL (kk:Int)(ps:List Int)(sy:Int)(aJ fin:List D)(A:ai)(m:List Bool)(n:Nat)(hn:n<=1000000)(hm:m.length=n) :
  Ex E1 (.loop p1L) (Qr (aW m) [A,jh,cK kk ps sy (toM m 0:Nat) aJ fin (.d (.n 11)),.row 0 1 (u6 m 0 n)] n 0 .u) (.exit 0,Qr (aW m) [A,jh,cK kk ps sy (toM m n:Nat) aJ fin (.d (.n 11)),.row 0 1 (u6 m n n)] n n (dB false)):=by
 obtain⟨r,h3,h4⟩:=Ex.inv (E:=E1) (b:=p1L) (fun j:Nat=>Qr (aW m) [A,jh,cK kk ps sy (toM m j:Nat) aJ fin (.d (.n 11)),.row 0 1 (u6 m j n)] n j .u) (fun j=>n-j) (fun j=>j<=n) (fun r=>r=(.exit 0,Qr (aW m) [A,jh,cK kk ps sy (toM m n:Nat) aJ fin (.d (.n 11)),.row 0 1 (u6 m n n)] n n (dB false))) (fun j hj=>by
  rcases Qg2 j n with h|h
  ·exact .inl ⟨j+1,UI kk ps sy aJ fin A m n j hn hm h,ae,ae⟩
  ·obtain rfl:j=n:=ae;refine .inr ⟨_,Ex.of (n:=60) ?_,aC,rfl⟩;unfold Qr;simp[p1L,f1512]) 0 ae
 exact h4 ▸ h3
def UJ (px:FV)(L:List ai)(aq:List D):Prop:=(px=.d (.n 11)/\aq=[])\/∃ i az,4<=i/\px=.ls (.loc i) az 11 0 aq.length/\L[i]?=some (.row az 11 aq)
def YM:aF:=f1512.body.r.r.r.r.l.r.bl.lp
def IX (m ak:List D)(L:List ai)(n k j:Nat)(t:FV):St :=
 (st0 [.u,.d (.s 1 m),.u,rL 1,rL 2,.ls (.loc 3) 0 1 0 n,.u,.u,.u,.u,.u,.u,.u,.u,.d (.s 11 ak),dI k,dI j,t,.u] L)
theorem UK (kk:Int)(ps:List Int)(sy st:Int)(aJ fin:List D)(m:List Bool)(n:Nat)(hn:n<=1000000)(hm:m.length=n)(ak:List (Ar α))(h3:ak.length<=1000000)(L:List ai)(px:FV)(aq:List D)(hlen:aq.length<=1000000)
  (h2:L[2]?=some (cK kk ps sy st aJ fin px)) (ht:L[3]?=some (.row 0 1 (u6 m n n))) (ho:UJ px L aq) (j f t:Nat) (a:Ar α) (ha:ak[j]?=some a) (hf:a.f=(f:Int)) (hat:a.t=(t:Int)) (hfn:f<n) (htn:t<n) :
  ∃ vQ L',Ex E1 YM (IX (aW m) (ak.map (Ar.d e)) L n ak.length j .u) (.norm,IX (aW m) (ak.map (Ar.d e)) L' n ak.length (j+1) .u)/\L'[0]?=L[0]?/\L'[1]?=L[1]?/\L'[2]?=some (cK kk ps sy st aJ fin vQ)/\L'[3]?=some (.row 0 1 (u6 m n n))/\UJ vQ L' (if stay m a then aq++[(FU m a).d e] else aq):=by
 have hj:j<ak.length:=(aS ha)
 have hj0:(0:Int)<=(j:Int):=ae;have aP:av .i64 ((j:Int)+1)=(j:Int)+1:=wrap_i64 ae;have hk1:((j+1:Nat):Int)=(j:Int)+1:=ae;have hjl:(j:Int)<(ak.length:Int):=ae;have e1:(ak.map (Ar.d e))[j]?=some (a.d e):=by simp[ha]
 have l3:3<L.length:=(aS ht)
 have l2:2<L.length:=ae;have f0:(0:Int)<=(f:Int):=ae;have t0:(0:Int)<=(t:Int):=ae;have fn:(f:Int)<(n:Int):=ae;have tn:(t:Int)<(n:Int):=ae;have bf:m[f]?=some (m[f]'(by omega)):=Qa1 ae;have bt:m[t]?=some (m[t]'(by omega)):=Qa1 ae;have hst:stay m a=(m[f]'(by omega)&&m[t]'(by omega)):=by
  unfold stay;rw[hf,hat,Xd2,Xd2,Qs0,Qs0,bf,bt];rfl
 have b1:=kZ bf;have b2:=kZ bt;generalize m[f]'(by omega)=x1,m[t]'(by omega)=x2 at*;have k1:=UH m hfn;have k2:=UH m htn;have sA:∀ b b':ai,(L++[b]).set L.length b'=L++[b']:=fun b b'=>by simp
 have hg:∀ b:ai,(L++[b])[L.length]?=some b:=fun b=>by simp
 have g2:∀ X,(L++X)[2]?=some (cK kk ps sy st aJ fin px):=fun X=>by rw[Qa0 l2];exact h2
 have g3:∀ X,(L++X)[3]?=some (.row 0 1 (u6 m n n)):=fun X=>by rw[Qa0 l3];exact ht
 have s2:∀ X r,(L++X).set 2 r=L.set 2 r++X:=fun X r=>Qq1 _ _ l2
 have m1:152<=most:=by unfold most;omega
 have m2:1<=most:=by unfold most;omega
 have m3:(aq.length+1)*152<=most:=by unfold most;omega
 have m4:aq.length+1<=most:=by unfold most;omega
 obtain⟨s,w1,w3,c,b,u',q,ps',ew,ed⟩:=a.dP e;have Uj:(FU m a).d e=mM (toM m f:Nat) a.l (toM m t:Nat) s w1 w3 c b u' q ps':=by
  obtain⟨f',l',t',x'⟩:=a;simp only at hf hat ew;subst hf hat;unfold FU Ar.mv Ar.d mM at*;simp only[Xd2];rw[ew];rfl
 rw[Uj,hst];rw[ed,hf,hat]at e1;unfold mM at*;clear ew ed Uj bf bt hst;have hne:(L.length==3)=false:=by rw[beq_eq_false_iff_ne];omega
 have hne2:(L.length != 3)=true:=by rw[bne,hne];rfl
 unfold cK at*;generalize LK .i64 ps=l9,ak.map (Ar.d e)=x3,ak.length=na at*;generalize hT:u6 m n n=V4 at*;generalize toM m f=kf,toM m t=kt,aW m=bs at*;have i1:=idx e1;have dw:j<x3.length:=(aS e1)
 have i2:=fun X=>idx (g2 X)
 have i3:=fun X=>idx (g3 X)
 have i4:=idx b1;have i5:=idx b2;have i6:=idx k1;have i7:=idx k2;have q1:f<bs.length:=(aS b1)
 have q2:t<bs.length:=(aS b2)
 have q3:f<V4.length:=(aS k1)
 have q4:t<V4.length:=(aS k2)
 by_cases hx:(x1&&x2)=true
 ·obtain⟨rfl,rfl⟩:x1=true/\x2=true:=by simpa using hx
  rw[if_pos hx];rcases ho with ⟨rfl,rfl⟩|⟨i,az,h5,rfl,h7⟩
  ·refine⟨.ls (.loc (L.length+1)) 0 11 0 1,L.set 2 (.box [dI kk,.d (.s 1 l9),dI sy,dI st,.d (.s 8 aJ),.d (.s 8 fin),.ls (.loc (L.length+1)) 0 11 0 1])++[.box [dI kf,dI a.l,dI kt,dB s,.d (.s 1 w1),.d (.s 1 w3),dI c,dB b,.d (.v (.int .u64 u')),.d (.s 6 q),.d (.s 8 ps')],.row 0 11 [.a [vI kf,vI a.l,vI kt,vB s,.s 1 w1,.s 1 w3,vI c,vB b,.v (.int .u64 u'),.s 6 q,.s 8 ps']]],Ex.of (n:=400) ?_,?_,?_,?_,?_,.inr ⟨L.length+1,0,ae,rfl,?_⟩⟩
   ·unfold IX;rw[hk1];simp (maxSteps:=400000) [YM,f1512,checked,iQ,vR,Ref.abs,jJ,FV.target,hj0,hjl,dw,aP,f0,t0,fn,tn,e1,b1,b2,k1,k2,i1,i2,i3,i4,i5,i6,i7,q1,q2,q3,q4,g2,g3,h2,ht,hg,sA,s2,l2,l3,m1,m2,hne,hne2]
   ·rw[Qa0 (by simp;omega),Qc0 ae]
   ·rw[Qa0 (by simp;omega),Qc0 ae]
   ·rw[Qa0 (by simpa using l2)];exact Qd0 l2
   ·rw[Qa0 (by simpa using l3),Qc0 ae];exact ht
   ·rw[Qb1 aC];simp
  ·have hil:i<L.length:=(aS h7)
   have hni:i≠2:=ae;have gi:∀ X,(L++X)[i]?=some (.row az 11 aq):=fun X=>by rw[Qa0 hil];exact h7
   have si:∀ X r,(L++X).set i r=L.set i r++X:=fun X r=>Qq1 _ _ hil
   have g2':∀ r X,(L.set i r++X)[2]?=some (.box [dI kk,.d (.s 1 l9),dI sy,dI st,.d (.s 8 aJ),.d (.s 8 fin),.ls (.loc i) az 11 0 aq.length]):=fun r X=>by rw[Qa0 (by simpa using l2),Qc0 hni];exact h2
   have s2':∀ r X o,(L.set i r++X).set 2 o=(L.set i r).set 2 o++X:=fun r X o=>Qq1 _ _ (by simpa using l2)
   have TE:aq.take aq.length=aq:=Qj0;have i8:=fun X=>idx (gi X)
   have i9:∀ r X (h:2<(L.set i r++X).length),(L.set i r++X)[2]=_:=fun r X h=>idx (g2' r X) h
   refine⟨.ls (.loc i) (az+1) 11 0 (aq.length+1),(L.set i (.row (az+1) 11 (aq++[.a [vI kf,vI a.l,vI kt,vB s,.s 1 w1,.s 1 w3,vI c,vB b,.v (.int .u64 u'),.s 6 q,.s 8 ps']]))).set 2 (.box [dI kk,.d (.s 1 l9),dI sy,dI st,.d (.s 8 aJ),.d (.s 8 fin),.ls (.loc i) (az+1) 11 0 (aq.length+1)])++[.box [dI kf,dI a.l,dI kt,dB s,.d (.s 1 w1),.d (.s 1 w3),dI c,dB b,.d (.v (.int .u64 u')),.d (.s 6 q),.d (.s 8 ps')]],Ex.of (n:=400) ?_,?_,?_,?_,?_,.inr ⟨i,az+1,h5,aC,?_⟩⟩
   ·unfold IX;rw[hk1];simp (maxSteps:=400000) [YM,f1512,checked,iQ,vR,Ref.abs,jJ,FV.target,hj0,hjl,dw,aP,f0,t0,fn,tn,e1,b1,b2,k1,k2,i1,i2,i3,i4,i5,i6,i7,i8,i9,q1,q2,q3,q4,g2,g2',g3,gi,h2,h7,ht,hg,sA,s2,s2',si,l2,l3,hil,TE,m3,m4,hne,hne2]
   ·rw[Qa0 (by simp;omega),Qc0 ae,Qc0 ae]
   ·rw[Qa0 (by simp;omega),Qc0 ae,Qc0 ae]
   ·rw[Qa0 (by simpa using l2)];exact Qd0 (by simpa using l2)
   ·rw[Qa0 (by simpa using l3),Qc0 ae,Qc0 ae];exact ht
   ·rw[Qa0 (by simpa using hil),Qc0 ae,Qd0 hil]
 ·rw[if_neg hx];refine⟨px,L++[.box [dI f,dI a.l,dI t,dB s,.d (.s 1 w1),.d (.s 1 w3),dI c,dB b,.d (.v (.int .u64 u')),.d (.s 6 q),.d (.s 8 ps')]],Ex.of (n:=400) ?_,?_,?_,g2 _,g3 _,?_⟩
  ·unfold IX;rw[hk1];cases x1 with
   | false=>simp (maxSteps:=400000) [YM,f1512,hj0,hjl,dw,aP,f0,t0,e1,b1,b2,i1,i4,i5,q1,q2,hg,sA]
   | true =>
    obtain rfl:x2=false:=by simpa using hx
    simp (maxSteps:=400000) [YM,f1512,hj0,hjl,dw,aP,f0,t0,e1,b1,b2,i1,i4,i5,q1,q2,hg,sA]
  ·rw[Qa0 ae]
  ·rw[Qa0 ae]
  ·rcases ho with h|⟨i,az,h5,h6,h7⟩
   ·exact .inl h
   ·exact .inr ⟨i,az,h5,h6,by rw[Qa0 (aS h7)];exact h7⟩
theorem YN (m ak:List D)(L:List ai)(n:Nat):Ex E1 YM (IX m ak L n ak.length ak.length .u) (.exit 2,IX m ak L n ak.length ak.length (dB false)):=by
 apply e6;unfold IX;simp[YM,f1512]
theorem BV (m:List Bool):∀ (l:List (Ar α)) (p:List D),l.foldl (fun p a=>if stay m a then p++[(FU m a).d e] else p) p=p++((oC m l).map (Ar.d e))
 | [],p=>by simp[oC]
 | a::l,p=>by
  rw[Qp0,BV m l];unfold oC;cases h:stay m a with
  | true=>rw[if_pos rfl,Xe2 h,Qe1,Qe1,Qk2];rfl
  | false=>rw[if_neg aC,Xe1 (by simp[h])]
theorem YO (kk:Int)(ps:List Int)(sy st:Int)(aJ fin:List D)(m:List Bool)(n:Nat)(hn:n<=1000000)(hm:m.length=n)(ak:List (Ar α))(h3:ak.length<=100000)(hin:∀ a ∈ ak,(0<=a.f/\a.f<n)/\(0<=a.t/\a.t<n))(L:List ai)
  (h2:L[2]?=some (cK kk ps sy st aJ fin (.d (.n 11)))) (ht:L[3]?=some (.row 0 1 (u6 m n n))) :
  ∃ px L',Ex E1 (.loop YM) (IX (aW m) (ak.map (Ar.d e)) L n ak.length 0 .u) (.exit 2,IX (aW m) (ak.map (Ar.d e)) L' n ak.length ak.length (dB false))/\L'[0]?=L[0]?/\L'[1]?=L[1]?/\L'[2]?=some (cK kk ps sy st aJ fin px)/\UJ px L' ((oC m ak).map (Ar.d e)):=by
 obtain⟨r,h1,px,L',rfl,g0,g1,g2,g3⟩:=Ex.fold (E:=E1) (b:=YM) ak (fun(p:List D) a=>if stay m a then p++[(FU m a).d e] else p) []
  (fun j aq st'=>aq.length<=j/\∃ px M,st'=IX (aW m) (ak.map (Ar.d e)) M n ak.length j .u/\M[0]?=L[0]?/\M[1]?=L[1]?/\M[2]?=some (cK kk ps sy st aJ fin px)/\M[3]?=some (.row 0 1 (u6 m n n))/\UJ px M aq)
  (fun aq r=>∃ px M,r=(.exit 2,IX (aW m) (ak.map (Ar.d e)) M n ak.length ak.length (dB false))/\M[0]?=L[0]?/\M[1]?=L[1]?/\M[2]?=some (cK kk ps sy st aJ fin px)/\UJ px M aq)
  (fun j a st' ha ⟨hlen,px,M,hst,q0,q1,q2,q3,q4⟩=>by
   subst hst;have hj:j<ak.length:=(aS ha)
   obtain⟨⟨a1,a2⟩,a3,a4⟩:=hin a (Qb2 ha);obtain⟨vQ,M',r1,r2,r3,r4,r5,r6⟩:=UK (e:=e) kk ps sy st aJ fin m n hn hm ak ae M px _ ae q2 q3 q4 j a.f.toNat a.t.toNat a ha ae ae ae ae;refine⟨_,r1,?_,vQ,M',rfl,r2.trans q0,r3.trans q1,r4,r5,r6⟩;split
   ·rw[Qb0,Q12];omega
   ·omega)
  (fun st' ⟨hlen,px,M,hst,q0,q1,q2,q3,q4⟩=>by
   subst hst;have n3:(ak.map (Ar.d e)).length=ak.length:=aC;have:=YN (aW m) (ak.map (Ar.d e)) M n;rw[n3]at this;exact⟨_,this,aC,px,M,rfl,q0,q1,q2,q4⟩)
  (st:=IX (aW m) (ak.map (Ar.d e)) L n ak.length 0 .u) ⟨Qd1 _,.d (.n 11),L,rfl,rfl,rfl,h2,ht,.inl ⟨rfl,rfl⟩⟩
 rw[BV,Qn0]at g3;exact⟨px,L',h1,g0,g1,g2,g3⟩
theorem M6 {β γ:Type}(f:β->γ)(m:List Bool)(l:List β):fB m (l.map f)=(fB m l).map f:=by
 unfold fB;rw[List.zip_map_left,List.filter_map,Xg0,Xg0]
 congr 1
theorem acr (kk:Int)(ps:List Int)(sy st:Int)(aJ fin:List W)(m:List Bool)(n:Nat)(hn:n<=1000000)(hm:m.length=n)(hi:aJ.length=n)(hf:fin.length=n)(ak:List (Ar α))(h3:ak.length<=100000)(hin:∀ a ∈ ak,(0<=a.f/\a.f<n)/\(0<=a.t/\a.t<n)) :
  Ca E1 1512 [.d (mR kk ps sy st aJ fin e ak),.d (.s 1 (aW m))] (.d (mR kk ps sy (cnt m) (fB m aJ) (fB m fin) e (oC m ak)),none):=by
 obtain⟨K,hK,t1,t2⟩:=((Ep aJ m ae ae).j ((Ep fin m ae ae).any)).at 0;obtain⟨bx,hbx⟩:∃ bx,bx=aO kk ps sy st (aJ.map W.d) (fin.map W.d) (ak.map (Ar.d e)):=⟨_,rfl⟩
 have hl1:=YL kk ps sy ((fB m aJ).map W.d) ((fB m fin).map W.d) bx m n hn hm;have hcn:toM m n=cnt m:=by unfold toM;rw[<-hm,Qj0]
 rw[hcn]at hl1;obtain⟨px,L,hl2,k0,k1,k2,ko⟩:=YO (e:=e) kk ps sy (cnt m:Nat) ((fB m aJ).map W.d) ((fB m fin).map W.d) m n hn hm ak h3 hin [bx,jh,cK kk ps sy (cnt m:Nat) ((fB m aJ).map W.d) ((fB m fin).map W.d) (.d (.n 11)),.row 0 1 (u6 m n n)] rfl rfl;obtain⟨T,rfl⟩:=three (k0.trans rfl) (k1.trans rfl) k2;have hbl:(aW m).length=n:=by rw[gF,hm]
 have z0:u6 m 0 n=List.replicate n (vI 0):=by simp[u6]
 have c0:toM m 0=0:=rfl;unfold mR;have sA:Ex E1 f1512.body.l (st0 (.d (gI kk ps sy st (aJ.map W.d) (fin.map W.d) (ak.map (Ar.d e)))::.d (.s 1 (aW m))::adD) []) (.norm,(st0 (.u::.d (.s 1 (aW m))::rL 0::rL 1::aai) [bx,jh])):=by
  apply e6;rw[hbx];unfold gI aO jh;simp[f1512]
 have sB := nx sA f1512.body.r.l (st0 (.u::.d (.s 1 (aW m))::rL 0::rL 1::rL 2::JE) [bx,jh,cK kk ps sy (toM m 0:Nat) ((fB m aJ).map W.d) ((fB m fin).map W.d) (.d (.n 11))]) (by
  refine Ex.of (n:=K+60) ?_;clear hl1 hl2 k0 k1 k2 ko sA hi hf;rw[hbx,c0,show((0:Nat):Int)=0 from rfl];unfold aO jh cK;generalize (fB m aJ).map W.d=x4,(fB m fin).map W.d=x5,ak.map (Ar.d e)=x3,aJ.map W.d=x1,fin.map W.d=x2,LK .i64 ps=l9 at*;simp[f1512,t1,t2])
 have sC := nx sB f1512.body.r.r.l (st0 (.u::.d (.s 1 (aW m))::rL 0::rL 1::rL 2::.ls (.loc 3) 0 1 0 n::Gu) [bx,jh,cK kk ps sy (toM m 0:Nat) ((fB m aJ).map W.d) ((fB m fin).map W.d) (.d (.n 11)),.row 0 1 (u6 m 0 n)]) (by
  apply e6;have n1:(n:Int)*8<=(most:Int):=by unfold most;omega
  have n3:n<=most:=by unfold most;omega
  clear hl1 hl2 k0 k1 k2 ko sA sB t1 t2;rw[z0];simp[f1512,hbl,n1,n3])
 have sD := nx sC f1512.body.r.r.r.l.l (Qr (aW m) [bx,jh,cK kk ps sy (toM m 0:Nat) ((fB m aJ).map W.d) ((fB m fin).map W.d) (.d (.n 11)),.row 0 1 (u6 m 0 n)] n 0 .u) (by
  apply e6;clear hl1 hl2 k0 k1 k2 ko sA sB sC t1 t2;unfold Qr;rw[show((0:Nat):Int)=0 from rfl];simp[f1512,hbl])
 have sE:Ex E1 f1512.body.r.r.r.r.l.l (Qr (aW m) [bx,jh,cK kk ps sy (cnt m:Nat) ((fB m aJ).map W.d) ((fB m fin).map W.d) (.d (.n 11)),.row 0 1 (u6 m n n)] n n (dB false))
   (.norm,IX (aW m) (ak.map (Ar.d e)) [bx,jh,cK kk ps sy (cnt m:Nat) ((fB m aJ).map W.d) ((fB m fin).map W.d) (.d (.n 11)),.row 0 1 (u6 m n n)] n ak.length 0 .u):=by
  apply e6;have hel:(ak.map (Ar.d e)).length=ak.length:=aC;clear hl1 hl2 k0 k1 k2 ko sA sB sC sD t1 t2;unfold Qr IX;rw[show((0:Nat):Int)=0 from rfl,hbx];unfold aO;generalize ak.map (Ar.d e)=x3 at*;simp[f1512,hel]
 have sF:∃ st',Ex E1 f1512.body.r.r.r.r.r (IX (aW m) (ak.map (Ar.d e)) (bx::jh::cK kk ps sy (cnt m:Nat) ((fB m aJ).map W.d) ((fB m fin).map W.d) px::T) n ak.length ak.length (dB false)) (.ret,st')/\finish f1512 st'=some (.d (gI kk ps sy (cnt m) ((fB m aJ).map W.d) ((fB m fin).map W.d) ((oC m ak).map (Ar.d e))),none):=by
  clear hl1 hl2 k0 k1 k2 sA sB sC sD sE t1 t2 hbx;unfold IX jh cK gI;generalize (oC m ak).map (Ar.d e)=q3,ak.map (Ar.d e)=x3,(fB m aJ).map W.d=x4,(fB m fin).map W.d=x5,aW m=bs at*;rcases ko with ⟨rfl,rfl⟩|⟨i,az,h5,rfl,h7⟩
  ·refine⟨_,Ex.of (n:=200) (by simp[f1512];rfl),?_⟩;simp[finish,show f1512.res=[.cell 3 true 7] from rfl,show f1512.ref=false from rfl]
  ·obtain⟨i',rfl⟩:∃ i',i=i'+3:=⟨i-3,ae⟩
   simp only[Xk2]at h7;have il:i'<T.length:=(aS h7)
   have i7:=idx h7;refine⟨_,Ex.of (n:=200) (by simp[f1512,h7,i7,il];rfl),?_⟩;simp[finish,show f1512.res=[.cell 3 true 7] from rfl,show f1512.ref=false from rfl,h7,i7,il,ai.view]
 obtain⟨st',e1,e2⟩:=sF;exact Ca.body (o:=.ret) rfl (aN 1512 f1512:E1.fn _=_) rfl (sA.seq (sB.seq (sC.seq (Ex.seq (sD.seq (Ex.block hl1)) (Ex.seq (sE.seq (Ex.block hl2)) e1))))) aC e2
theorem acs (A M N:D)(m:List D)(hA:∃ a b c d f g h,A=gI a b c d f g h)(hM:∃ a b c d f g h,M=gI a b c d f g h)(hN:∃ a b c d f g h,N=gI a b c d f g h)(h1:Ca E1 1506 [.d A] (.d (.t [.s 1 m,vI 0]),none))(h2:Ca E1 1512 [.d A,.d (.s 1 m)] (.d M,none))(h3:Ca E1 1024 [.d M] (.d (.t [N,vI 0]),none)) :
  Ca E1 1505 [.d A] (.d (.t [N,vI 0]),none):=by
 obtain⟨N1,t1⟩:=h1.get;obtain⟨N2,t2⟩:=h2.any;obtain⟨N3,t3⟩:=h3.any;obtain⟨aa,ab,ac,ad,af,ag,ah,rfl⟩:=hA;obtain⟨ma,mb,mc,md,mf,mg,mh,rfl⟩:=hM;obtain⟨na,nb,nc,nd,nf,ng,nh,rfl⟩:=hN;have hk:Ca E1 1511 [.d (gI aa ab ac ad af ag ah),.d (.s 1 m)] (.d (.t [gI na nb nc nd nf ng nh,vI 0]),none):=by
  obtain⟨K,hK⟩:∃ K,K=N2+N3:=⟨_,rfl⟩
  replace t2:=t2 K ae;replace t3:=t3 K ae;refine Ca.bO (n:=K+100) ?_;rw[aB rfl (aN 1511 f1511:E1.fn _=_) rfl];clear h1 h2 h3 t1;unfold gI at*;generalize LK .i64 ab=l1,LK .i64 nb=l3 at*;simp[f1511,t2,t3,lY]
 obtain⟨N4,t4⟩:=hk.any;obtain⟨K,hK⟩:∃ K,K=N1+N4:=⟨_,rfl⟩
 replace t1:=fun k=>bX (t1 0) (show N1+0<=K+k by omega)
 replace t4:=t4 K ae;refine Ca.bO (n:=K+100) ?_;rw[aB rfl (k1505:E1.fn _=_) rfl];clear h1 h2 h3 hk t2 t3;unfold gI at*;simp[f1505,t1,t4,lY]
end Fi.S
noncomputable section
namespace Fi.S
open Go Fi
set_option maxHeartbeats 8000000
section fB
variable {β:Type}
theorem UL (b:Bool)(m:List Bool)(x:β)(l:List β):fB (b::m) (x::l)=if b then x::fB m l else fB m l:=by
 unfold fB;cases b<;>simp
theorem UM (m:List Bool):toM m 0=0:=rfl
theorem UN (b:Bool)(m:List Bool)(i:Nat):toM (b::m) (i+1)=(if b then 1 else 0)+toM m i:=by
 unfold toM cnt;rw[List.take_succ_cons,Xq1];cases b
 ·simp
 ·simp;omega
theorem BX (b:Bool)(m:List Bool):cnt (b::m)=(if b then 1 else 0)+cnt m:=by
 unfold cnt;rw[Xq1];cases b
 ·simp
 ·simp;omega
theorem FW:∀ {m:List Bool} {l:List β},m.length=l.length->(fB m l).length=cnt m
 | [],l,h=>by cases l with
  | nil=>rfl
  | cons _ _=>simp at h
 | b::m,l,h=>by cases l with
  | nil=>simp at h
  | cons x l =>
   have:=FW (m:=m) (l:=l) (by simpa using h);rw[UL,BX];cases b
   ·simpa using this
   ·simp[this];omega
theorem K_:∀ {m:List Bool} {s:Nat},m[s]?=some true->toM m s<cnt m
 | [],s,h=>by simp at h
 | b::m,0,h=>by simp at h;subst h;rw[UM,BX];simp;omega
 | b::m,s+1,h=>by
  have:=K_ (m:=m) (s:=s) (by simpa using h);rw[UN,BX];omega
theorem UO {m:List Bool}{i j:Nat}(h:i<=j):toM m i<=toM m j:=by
 obtain⟨d,rfl⟩:∃ d,j=i+d:=⟨j-i,ae⟩
 unfold toM cnt;rw[List.take_add,Xl2,Qb0];omega
theorem BZ {m:List Bool}{i j:Nat}(h:i<j)(hi:m[i]?=some true):toM m i<toM m j:=by
 have h1:=BU hi;have h2:=UO (m:=m) (show i+1<=j by omega);simp at h1;omega
theorem zQ {m:List Bool}{l:List β}{x:β}(h:x ∈ fB m l):x ∈ l:=by
 unfold fB at h;obtain⟨p,hp,rfl⟩:=Qj2.1 h;exact(List.of_mem_zip (Xs0.1 hp).1).1
end fB
section trim
variable {α:Type} {bT:α->Bool} {pl:α->α->α}
theorem IY {m:List Bool}{a:Ar α}:stay m a=true↔m[a.f.toNat]?=some true/\m[a.t.toNat]?=some true:=by
 unfold stay;rw[Qa2,jb,jb]
theorem zR {m:List Bool}{l:List (Ar α)}{a:Ar α}(h:a ∈ oC m l):∃ b ∈ l,stay m b=true/\a=FU m b:=by
 obtain⟨b,hb,rfl⟩:=Qj2.1 h;obtain⟨h1,h2⟩:=Xs0.1 hb;exact⟨b,h1,h2,rfl⟩
variable {aJ fin:List α} {l:List (Ar α)} {n:Nat}
end trim
end Fi.S
noncomputable section
namespace Fi.S
open Go Fi
set_option maxHeartbeats 8000000
set_option maxRecDepth 10000
variable {α:Type} {e:α->W}
end Fi.S
noncomputable section
namespace Fi.S
open Go Fi
set_option maxHeartbeats 8000000
set_option maxRecDepth 10000
variable {α:Type} {e:α->W}
end Fi.S
noncomputable section
namespace Fi.S
open Go Fi
set_option maxHeartbeats 8000000
set_option maxRecDepth 10000
variable {α:Type} {e:α->W}
end Fi.S
