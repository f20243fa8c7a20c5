import Derived.Test.YtkekcmgkpdkieaaGreatDoorDE
set_option linter.unusedVariables false
set_option linter.unusedSimpArgs false
noncomputable section
namespace Fi.S
open Go Fi
set_option maxHeartbeats 8000000
set_option maxRecDepth 10000
def gu {β:Type}(m:List Bool)(l:List β):List β:=((l.zip m).filter (·.2)).map (·.1)
def X6 (sz:Nat)(out:FV)(L:List ai)(aq:List D):Prop:=(out=.d (.n sz)/\aq=[])\/∃ i az,out=.ls (.loc i) az sz 0 aq.length/\L[i]?=some (.row az sz aq)
def mqL:aG:=f1513.body.r.r.l.r.bl.lp
def Qm (ws:List D)(m:List D)(out:FV)(n j:Nat)(t:FV)(L:List ai):St :=
 (st0 [.u,.d (.s 1 m),.u,out,.u,.u,.d (.s 8 ws),dI n,dI j,t,.u] L)
theorem X7 (ws:List W)(m:List Bool)(n j:Nat)(out:FV)(L:List ai)(aq:List D)(x:W)(b:Bool)(hl:ws.length=n)(hn:n<=1000000)(hx:ws[j]?=some x)(hb:m[j]?=some b)(ho:X6 8 out L aq)(has:aq.length<=1000000) :
  ∃ out' L',Ex E1 mqL (Qm (ws.map W.d) (dW m) out n j .u L) (.norm,Qm (ws.map W.d) (dW m) out' n (j+1) .u L')/\X6 8 out' L' (if b then aq++[x.d] else aq):=by
 have hj:j<ws.length:=(aU hx)
 have hj0:(0:Int)<=(j:Int):=ae;have aS:ak .i64 ((j:Int)+1)=(j:Int)+1:=wrap_i64 ae;have hk1:((j+1:Nat):Int)=(j:Int)+1:=ae;have hjn:(j:Int)<(n:Int):=ae;have e1:(ws.map W.d)[j]?=some x.d:=by simp[hx]
 have e2:=yG hb;have sA:∀ c c':ai,(L++[c]).set L.length c'=L++[c']:=fun c c'=>by simp
 have hg:∀ c:ai,(L++[c])[L.length]?=some c:=fun c=>by simp
 obtain⟨s,l2,l3,c,b',u,p,q,ex⟩:=x.aP;rw[ex]at e1 ⊢;clear ex hx hb;unfold wD at*;generalize ws.map W.d=es,dW m=bs at*;have i0:=idx e1;have i1:=idx e2;have fJ:j<es.length:=(aU e1)
 have hjb:j<bs.length:=(aU e2)
 cases b with
 | false =>
  refine⟨out,L++[.box [dB s,.d (.s 1 l2),.d (.s 1 l3),dI c,dB b',.d (.v (.int .u64 u)),.d (.s 6 p),.d (.s 8 q)]],Ex.of (n:=300) ?_,?_⟩
  ·unfold Qm;rw[hk1];simp[mqL,f1513,hj0,hjn,fJ,hjb,aS,e1,e2,i0,i1,sA,hg]
  ·rw[if_neg aC];rcases ho with h|⟨i,az,h1,h2⟩
   ·exact .inl h
   ·exact .inr ⟨i,az,h1,by rw[Qa0 (aU h2)];exact h2⟩
 | true =>
  rcases ho with ⟨rfl,rfl⟩|⟨i,az,rfl,hrow⟩
  ·refine⟨.ls (.loc (L.length+1)) 0 8 0 1,L++[.box [dB s,.d (.s 1 l2),.d (.s 1 l3),dI c,dB b',.d (.v (.int .u64 u)),.d (.s 6 p),.d (.s 8 q)],.row 0 8 [.a [vB s,.s 1 l2,.s 1 l3,vI c,vB b',.v (.int .u64 u),.s 6 p,.s 8 q]]],Ex.of (n:=300) ?_,.inr ⟨L.length+1,0,rfl,by rw[Qb1 ae];simp⟩⟩;unfold Qm;rw[hk1];simp[mqL,f1513,hj0,hjn,fJ,hjb,aS,e1,e2,i0,i1,sA,hg,most]
  ·have li:i<L.length:=(aU hrow)
   have gi:∀ X,(L++X)[i]?=some (.row az 8 aq):=fun X=>by rw[Qa0 li];exact hrow
   have si:∀ X r,(L++X).set i r=L.set i r++X:=fun X r=>Qr2 _ _ li
   have tkr:aq.take aq.length=aq:=Qj1;have m1:(aq.length+1)*128<=1099511627776:=ae;have m2:aq.length+1<=1099511627776:=ae;have ji:=fun X=>idx (gi X)
   refine⟨.ls (.loc i) (az+1) 8 0 (aq.length+1),L.set i (.row (az+1) 8 (aq++[.a [vB s,.s 1 l2,.s 1 l3,vI c,vB b',.v (.int .u64 u),.s 6 p,.s 8 q]]))++[.box [dB s,.d (.s 1 l2),.d (.s 1 l3),dI c,dB b',.d (.v (.int .u64 u)),.d (.s 6 p),.d (.s 8 q)]],Ex.of (n:=300) ?_,.inr ⟨i,az+1,aC,?_⟩⟩
   ·unfold Qm;rw[hk1];simp[mqL,f1513,hj0,hjn,fJ,hjb,aS,e1,e2,i0,i1,sA,hg,most,gi,si,ji,tkr,m1,m2]
   ·rw[Qa0 (by simpa using li),Qd0 li];simp
theorem Lh:∀ (l:List (W × Bool)) (p:List D),l.foldl (fun p x=>if x.2 then p++[x.1.d] else p) p=p++((l.filter (·.2)).map (·.1)).map W.d
 | [],p=>by simp
 | (x,b)::l,p=>by
  rw[Qk2,Lh l];cases b<;>simp
theorem Gy (ws:List W)(m:List Bool)(hn:ws.length<=1000000)(hm:m.length=ws.length):Ca E1 1513 [.d (.s 8 (ws.map W.d)),.d (.s 1 (dW m))] (.d (.s 8 ((gu m ws).map W.d)),none):=by
 have hzl:(ws.zip m).length=ws.length:=by rw[Xu1];omega
 obtain⟨r,h1,out,L,h2,h3⟩:=Ex.fold (E:=E1) (b:=mqL) (ws.zip m) (fun p x=>if x.2 then p++[x.1.d] else p) ([]:List D)
  (fun j acc st=>∃ out L,st=Qm (ws.map W.d) (dW m) out ws.length j .u L/\X6 8 out L acc/\acc.length<=j)
  (fun acc r=>∃ out L,r=(.exit 0,Qm (ws.map W.d) (dW m) out ws.length ws.length (dB false) L)/\X6 8 out L acc)
  (fun j x st hx ⟨out,L,hst,g1,g2⟩=>by
   subst hst;obtain⟨hj,hx'⟩:=Qq1.1 hx;rw[List.getElem_zip]at hx';subst hx';obtain⟨out',L',k1,k2⟩:=X7 ws m ws.length j out L _ ws[j] (m[j]'(by omega)) rfl hn (Qa1 ae) (Qa1 ae) g1 ae;refine⟨_,k1,out',L',rfl,k2,?_⟩;simp only;split
   ·rw[Qb0,Xc2];omega
   ·omega)
  (fun st ⟨out,L,hst,g1,g2⟩=>by
   subst hst;rw[hzl];refine⟨_,Ex.of (n:=60) (r:=(.exit 0,Qm (ws.map W.d) (dW m) out ws.length ws.length (dB false) L)) ?_,aC,out,L,rfl,g1⟩;unfold Qm;simp[mqL,f1513])
  (st:=Qm (ws.map W.d) (dW m) (.d (.n 8)) ws.length 0 .u []) ⟨_,_,rfl,.inl ⟨rfl,rfl⟩,Qe1 _⟩
 subst h2;rw[Lh,Qs2]at h3
 change X6 8 out L ((gu m ws).map W.d) at h3
 have hel:(ws.map W.d).length=ws.length:=aC;generalize (gu m ws).map W.d=rs,ws.map W.d=es,dW m=bs at*;have sA:Ex E1 f1513.body.l (st0 (.d (.s 8 es)::.d (.s 1 bs)::Jh) []) (.norm,(st0 (.d (.s 8 es)::.d (.s 1 bs)::Jh) [])):=by
  apply e6;simp[f1513]
 have sB := nx sA f1513.body.r.l (st0 (.d (.s 8 es)::.d (.s 1 bs)::.u::.d (.n 8)::qi) []) (by
  apply e6;simp[f1513])
 have sC := nx sB f1513.body.r.r.l.l (Qm es bs (.d (.n 8)) ws.length 0 .u []) (by
  apply e6;unfold Qm;simp[f1513,hel])
 have sD:Ex E1 f1513.body.r.r.r (Qm es bs out ws.length ws.length (dB false) L) (.ret,(st0 (.u::.u::out::xh) L)):=by
  apply e6;unfold Qm;simp[f1513]
 refine Ca.body (o:=.ret) rfl (aO 1513 f1513:E1.fn _=_) rfl (sA.seq (sB.seq (Ex.seq (sC.seq (Ex.block h1)) sD))) aC ?_;rcases h3 with ⟨rfl,rfl⟩|⟨i,az,rfl,hrow⟩
 ·simp[show f1513.res=[.var 2] from rfl,show f1513.ref=false from rfl]
 ·have h9:ai.view az 8 0 rs.length (.row az 8 rs)=some rs:=by simp[ai.view]
  simp[show f1513.res=[.var 2] from rfl,show f1513.ref=false from rfl,hrow,h9]
end Fi.S
noncomputable section
namespace Fi.S
open Go Fi
set_option maxHeartbeats 8000000
set_option maxRecDepth 10000
variable {α:Type} {e:α->W}
def toM (m:List Bool)(i:Nat):Nat:=cnt (m.take i)
def Ar.mv (a:Ar α)(f t:Int):Ar α:=⟨f,a.l,t,a.x⟩
def stay (m:List Bool)(a:Ar α):Bool:=m.getD a.f.toNat false&&m.getD a.t.toNat false
def IC (m:List Bool)(a:Ar α):Ar α:=a.mv (toM m a.f.toNat) (toM m a.t.toNat)
def oF (m:List Bool)(l:List (Ar α)):List (Ar α):=(l.filter (stay m)).map (IC m)
theorem Li {m:List Bool}{j:Nat}{b:Bool}(h:m[j]?=some b):toM m (j+1)=toM m j+(if b then 1 else 0):=by
 obtain⟨hj,hb⟩:=Qq1.1 h;unfold toM cnt;rw[Qi1 hj,Xw1,Qb0,hb];cases b<;>simp
def xg (m:List Bool)(j n:Nat):List D:=((List.range j).map fun i=>D.v (.int .i64 (toM m i)))++List.replicate (n-j) (vI 0)
theorem abP (m:List Bool){j n:Nat}(h:j<=n):(xg m j n).length=n:=by simp[xg];omega
theorem abQ (m:List Bool){j n:Nat}(h:j<n):(xg m j n).set j (vI (toM m j))=xg m (j+1) n:=by
 unfold xg;rw[Lg _ _ _ _ _ aC h,List.range_succ,Qq2];rfl
theorem abR (m:List Bool){j n:Nat}(h:j<n):(xg m j n)[j]?=some (vI 0):=by
 unfold xg;rw[Qb1 aC];simp[Qu2];omega
theorem X8 (m:List Bool){i n:Nat}(h:i<n):(xg m n n)[i]?=some (vI (toM m i)):=by
 unfold xg;rw[Qa0 (by simpa using h)];simp[h]
def p1L:aG:=f1512.body.r.r.r.l.r.bl.lp
def T_ (m:List D)(L:List ai)(n j:Nat)(t:FV):St :=
 (st0 [.u,.d (.s 1 m),rL 0,rL 1,rL 2,.ls (.loc 3) 0 1 0 n,.u,.u,.u,.d (.s 1 m),dI n,dI j,t,.u,.u,.u,.u,.u,.u] L)
theorem X9 (kk:Int)(ps:List Int)(sy:Int)(aK fin:List D)(A:ai)(m:List Bool)(n j:Nat)(hn:n<=1000000)(hm:m.length=n)(hj:j<n) :
  Ex E1 p1L (T_ (dW m) [A,nX,dA kk ps sy (toM m j:Nat) aK fin (.d (.n 11)),.row 0 1 (xg m j n)] n j .u) (.norm,T_ (dW m) [A,nX,dA kk ps sy (toM m (j+1):Nat) aK fin (.d (.n 11)),.row 0 1 (xg m (j+1) n)] n (j+1) .u):=by
 have hb:m[j]?=some (m[j]'(by omega)):=Qa1 ae;have hs:=Li hb;have hle:toM m j<=1000000:=by
  have:=Er (m.take j);rw[Qk0]at this;unfold toM;omega
 have ht:=abQ m hj;have hg:=abR m hj;have hl:=abP m (Nat.le_of_lt hj);have e1:=yG hb;generalize m[j]'(by omega)=b at*;have hj0:(0:Int)<=(j:Int):=ae;have hjn:(j:Int)<(n:Int):=ae;have aS:ak .i64 ((j:Int)+1)=(j:Int)+1:=wrap_i64 ae;have hk1:((j+1:Nat):Int)=(j:Int)+1:=ae;have hw:ak .i64 ((toM m j:Nat)+1:Int)=(toM m j:Nat)+1:=wrap_i64 ae;have hjr:j<(xg m j n).length:=ae;have ig:=idx hg;have ib:=idx e1;have hjb:j<(dW m).length:=(aU e1)
 refine Ex.of (n:=200) ?_;unfold T_ dA nX;rw[hk1,hs,<-ht];clear hs ht hb;generalize xg m j n=tos,toM m j=c,dW m=bs at*;cases b with
 | false=>simp[p1L,f1512,hj0,hjn,aS,hjr,hjb,e1,ig,ib,hg]
 | true =>
  rw[if_pos rfl,show((c+1:Nat):Int)=(c:Int)+1 by omega];simp[p1L,f1512,hj0,hjn,aS,hjr,hjb,e1,ig,ib,hg,hw]
theorem abS (kk:Int)(ps:List Int)(sy:Int)(aK fin:List D)(A:ai)(m:List Bool)(n:Nat)(hn:n<=1000000)(hm:m.length=n) :
  Ex E1 (.loop p1L) (T_ (dW m) [A,nX,dA kk ps sy (toM m 0:Nat) aK fin (.d (.n 11)),.row 0 1 (xg m 0 n)] n 0 .u) (.exit 0,T_ (dW m) [A,nX,dA kk ps sy (toM m n:Nat) aK fin (.d (.n 11)),.row 0 1 (xg m n n)] n n (dB false)):=by
 obtain⟨r,h3,h4⟩:=Ex.inv (E:=E1) (b:=p1L) (fun j:Nat=>T_ (dW m) [A,nX,dA kk ps sy (toM m j:Nat) aK fin (.d (.n 11)),.row 0 1 (xg m j n)] n j .u) (fun j=>n-j) (fun j=>j<=n) (fun r=>r=(.exit 0,T_ (dW m) [A,nX,dA kk ps sy (toM m n:Nat) aK fin (.d (.n 11)),.row 0 1 (xg m n n)] n n (dB false))) (fun j hj=>by
  rcases Qg0 j n with h|h
  ·exact .inl ⟨j+1,X9 kk ps sy aK fin A m n j hn hm h,ae,ae⟩
  ·obtain rfl:j=n:=ae;refine .inr ⟨_,Ex.of (n:=60) ?_,aC,rfl⟩;unfold T_;simp[p1L,f1512]) 0 ae
 exact h4 ▸ h3
def X_ (px:FV)(L:List ai)(aq:List D):Prop:=(px=.d (.n 11)/\aq=[])\/∃ i az,4<=i/\px=.ls (.loc i) az 11 0 aq.length/\L[i]?=some (.row az 11 aq)
def p2L:aG:=f1512.body.r.r.r.r.l.r.bl.lp
def Lj (m av:List D)(L:List ai)(n k j:Nat)(t:FV):St :=
 (st0 [.u,.d (.s 1 m),.u,rL 1,rL 2,.ls (.loc 3) 0 1 0 n,.u,.u,.u,.u,.u,.u,.u,.u,.d (.s 11 av),dI k,dI j,t,.u] L)
theorem Ya (kk:Int)(ps:List Int)(sy st:Int)(aK fin:List D)(m:List Bool)(n:Nat)(hn:n<=1000000)(hm:m.length=n)(av:List (Ar α))(h3:av.length<=1000000)(L:List ai)(px:FV)(aq:List D)(hlen:aq.length<=1000000)
  (h2:L[2]?=some (dA kk ps sy st aK fin px)) (ht:L[3]?=some (.row 0 1 (xg m n n))) (ho:X_ px L aq) (j f t:Nat) (a:Ar α) (ha:av[j]?=some a) (hf:a.f=(f:Int)) (hat:a.t=(t:Int)) (hfn:f<n) (htn:t<n) :
  ∃ qM L',Ex E1 p2L (Lj (dW m) (av.map (Ar.d e)) L n av.length j .u) (.norm,Lj (dW m) (av.map (Ar.d e)) L' n av.length (j+1) .u)/\L'[0]?=L[0]?/\L'[1]?=L[1]?/\L'[2]?=some (dA kk ps sy st aK fin qM)/\L'[3]?=some (.row 0 1 (xg m n n))/\X_ qM L' (if stay m a then aq++[(IC m a).d e] else aq):=by
 have hj:j<av.length:=(aU ha)
 have hj0:(0:Int)<=(j:Int):=ae;have aS:ak .i64 ((j:Int)+1)=(j:Int)+1:=wrap_i64 ae;have hk1:((j+1:Nat):Int)=(j:Int)+1:=ae;have hjl:(j:Int)<(av.length:Int):=ae;have e1:(av.map (Ar.d e))[j]?=some (a.d e):=by simp[ha]
 have l3:3<L.length:=(aU ht)
 have l2:2<L.length:=ae;have f0:(0:Int)<=(f:Int):=ae;have t0:(0:Int)<=(t:Int):=ae;have fn:(f:Int)<(n:Int):=ae;have tn:(t:Int)<(n:Int):=ae;have bf:m[f]?=some (m[f]'(by omega)):=Qa1 ae;have bt:m[t]?=some (m[t]'(by omega)):=Qa1 ae;have hst:stay m a=(m[f]'(by omega)&&m[t]'(by omega)):=by
  unfold stay;rw[hf,hat,Q42,Q42,Qh1,Qh1,bf,bt];rfl
 have b1:=yG bf;have b2:=yG bt;generalize m[f]'(by omega)=x1,m[t]'(by omega)=x2 at*;have k1:=X8 m hfn;have k2:=X8 m htn;have sA:∀ b b':ai,(L++[b]).set L.length b'=L++[b']:=fun b b'=>by simp
 have hg:∀ b:ai,(L++[b])[L.length]?=some b:=fun b=>by simp
 have g2:∀ X,(L++X)[2]?=some (dA kk ps sy st aK fin px):=fun X=>by rw[Qa0 l2];exact h2
 have g3:∀ X,(L++X)[3]?=some (.row 0 1 (xg m n n)):=fun X=>by rw[Qa0 l3];exact ht
 have s2:∀ X r,(L++X).set 2 r=L.set 2 r++X:=fun X r=>Qr2 _ _ l2
 have m1:152<=most:=by unfold most;omega
 have m2:1<=most:=by unfold most;omega
 have m3:(aq.length+1)*152<=most:=by unfold most;omega
 have m4:aq.length+1<=most:=by unfold most;omega
 obtain⟨s,w1,w3,c,b,u',q,ps',ew,ed⟩:=a.fH e;have ed':(IC m a).d e=pQ (toM m f:Nat) a.l (toM m t:Nat) s w1 w3 c b u' q ps':=by
  obtain⟨f',l',t',x'⟩:=a;simp only at hf hat ew;subst hf hat;unfold IC Ar.mv Ar.d pQ at*;simp only[Q42];rw[ew];rfl
 rw[ed',hst];rw[ed,hf,hat]at e1;unfold pQ at*;clear ew ed ed' bf bt hst;have hne:(L.length==3)=false:=by rw[beq_eq_false_iff_ne];omega
 have hne2:(L.length != 3)=true:=by rw[bne,hne];rfl
 unfold dA at*;generalize LK .i64 ps=l9,av.map (Ar.d e)=x3,av.length=na at*;generalize hT:xg m n n=tos at*;generalize toM m f=kf,toM m t=kt,dW m=bs at*;have i1:=idx e1;have fJ:j<x3.length:=(aU e1)
 have i2:=fun X=>idx (g2 X)
 have i3:=fun X=>idx (g3 X)
 have i4:=idx b1;have i5:=idx b2;have i6:=idx k1;have i7:=idx k2;have q1:f<bs.length:=(aU b1)
 have q2:t<bs.length:=(aU b2)
 have q3:f<tos.length:=(aU k1)
 have q4:t<tos.length:=(aU k2)
 by_cases hx:(x1&&x2)=true
 ·obtain⟨rfl,rfl⟩:x1=true/\x2=true:=by simpa using hx
  rw[if_pos hx];rcases ho with ⟨rfl,rfl⟩|⟨i,az,h5,rfl,h7⟩
  ·refine⟨.ls (.loc (L.length+1)) 0 11 0 1,L.set 2 (.box [dI kk,.d (.s 1 l9),dI sy,dI st,.d (.s 8 aK),.d (.s 8 fin),.ls (.loc (L.length+1)) 0 11 0 1])++[.box [dI kf,dI a.l,dI kt,dB s,.d (.s 1 w1),.d (.s 1 w3),dI c,dB b,.d (.v (.int .u64 u')),.d (.s 6 q),.d (.s 8 ps')],.row 0 11 [.a [vI kf,vI a.l,vI kt,vB s,.s 1 w1,.s 1 w3,vI c,vB b,.v (.int .u64 u'),.s 6 q,.s 8 ps']]],Ex.of (n:=400) ?_,?_,?_,?_,?_,.inr ⟨L.length+1,0,ae,rfl,?_⟩⟩
   ·unfold Lj;rw[hk1];simp (maxSteps:=400000) [p2L,f1512,checked,mP,Dz,Ref.abs,kI,FV.target,hj0,hjl,fJ,aS,f0,t0,fn,tn,e1,b1,b2,k1,k2,i1,i2,i3,i4,i5,i6,i7,q1,q2,q3,q4,g2,g3,h2,ht,hg,sA,s2,l2,l3,m1,m2,hne,hne2]
   ·rw[Qa0 (by simp;omega),Qb2 ae]
   ·rw[Qa0 (by simp;omega),Qb2 ae]
   ·rw[Qa0 (by simpa using l2)];exact Qd0 l2
   ·rw[Qa0 (by simpa using l3),Qb2 ae];exact ht
   ·rw[Qb1 aC];simp
  ·have hil:i<L.length:=(aU h7)
   have hni:i≠2:=ae;have gi:∀ X,(L++X)[i]?=some (.row az 11 aq):=fun X=>by rw[Qa0 hil];exact h7
   have si:∀ X r,(L++X).set i r=L.set i r++X:=fun X r=>Qr2 _ _ hil
   have g2':∀ r X,(L.set i r++X)[2]?=some (.box [dI kk,.d (.s 1 l9),dI sy,dI st,.d (.s 8 aK),.d (.s 8 fin),.ls (.loc i) az 11 0 aq.length]):=fun r X=>by rw[Qa0 (by simpa using l2),Qb2 hni];exact h2
   have s2':∀ r X o,(L.set i r++X).set 2 o=(L.set i r).set 2 o++X:=fun r X o=>Qr2 _ _ (by simpa using l2)
   have tkr:aq.take aq.length=aq:=Qj1;have i8:=fun X=>idx (gi X)
   have i9:∀ r X (h:2<(L.set i r++X).length),(L.set i r++X)[2]=_:=fun r X h=>idx (g2' r X) h
   refine⟨.ls (.loc i) (az+1) 11 0 (aq.length+1),(L.set i (.row (az+1) 11 (aq++[.a [vI kf,vI a.l,vI kt,vB s,.s 1 w1,.s 1 w3,vI c,vB b,.v (.int .u64 u'),.s 6 q,.s 8 ps']]))).set 2 (.box [dI kk,.d (.s 1 l9),dI sy,dI st,.d (.s 8 aK),.d (.s 8 fin),.ls (.loc i) (az+1) 11 0 (aq.length+1)])++[.box [dI kf,dI a.l,dI kt,dB s,.d (.s 1 w1),.d (.s 1 w3),dI c,dB b,.d (.v (.int .u64 u')),.d (.s 6 q),.d (.s 8 ps')]],Ex.of (n:=400) ?_,?_,?_,?_,?_,.inr ⟨i,az+1,h5,aC,?_⟩⟩
   ·unfold Lj;rw[hk1];simp (maxSteps:=400000) [p2L,f1512,checked,mP,Dz,Ref.abs,kI,FV.target,hj0,hjl,fJ,aS,f0,t0,fn,tn,e1,b1,b2,k1,k2,i1,i2,i3,i4,i5,i6,i7,i8,i9,q1,q2,q3,q4,g2,g2',g3,gi,h2,h7,ht,hg,sA,s2,s2',si,l2,l3,hil,tkr,m3,m4,hne,hne2]
   ·rw[Qa0 (by simp;omega),Qb2 ae,Qb2 ae]
   ·rw[Qa0 (by simp;omega),Qb2 ae,Qb2 ae]
   ·rw[Qa0 (by simpa using l2)];exact Qd0 (by simpa using l2)
   ·rw[Qa0 (by simpa using l3),Qb2 ae,Qb2 ae];exact ht
   ·rw[Qa0 (by simpa using hil),Qb2 ae,Qd0 hil]
 ·rw[if_neg hx];refine⟨px,L++[.box [dI f,dI a.l,dI t,dB s,.d (.s 1 w1),.d (.s 1 w3),dI c,dB b,.d (.v (.int .u64 u')),.d (.s 6 q),.d (.s 8 ps')]],Ex.of (n:=400) ?_,?_,?_,g2 _,g3 _,?_⟩
  ·unfold Lj;rw[hk1];cases x1 with
   | false=>simp (maxSteps:=400000) [p2L,f1512,hj0,hjl,fJ,aS,f0,t0,e1,b1,b2,i1,i4,i5,q1,q2,hg,sA]
   | true =>
    obtain rfl:x2=false:=by simpa using hx
    simp (maxSteps:=400000) [p2L,f1512,hj0,hjl,fJ,aS,f0,t0,e1,b1,b2,i1,i4,i5,q1,q2,hg,sA]
  ·rw[Qa0 ae]
  ·rw[Qa0 ae]
  ·rcases ho with h|⟨i,az,h5,h6,h7⟩
   ·exact .inl h
   ·exact .inr ⟨i,az,h5,h6,by rw[Qa0 (aU h7)];exact h7⟩
theorem abU (m av:List D)(L:List ai)(n:Nat):Ex E1 p2L (Lj m av L n av.length av.length .u) (.exit 2,Lj m av L n av.length av.length (dB false)):=by
 apply e6;unfold Lj;simp[p2L,f1512]
theorem Ll (m:List Bool):∀ (l:List (Ar α)) (p:List D),l.foldl (fun p a=>if stay m a then p++[(IC m a).d e] else p) p=p++((oF m l).map (Ar.d e))
 | [],p=>by simp[oF]
 | a::l,p=>by
  rw[Qk2,Ll m l];unfold oF;cases h:stay m a with
  | true=>rw[if_pos rfl,Q72 h,Qd2,Qd2,Qm1];rfl
  | false=>rw[if_neg aC,Q71 (by simp[h])]
theorem abV (kk:Int)(ps:List Int)(sy st:Int)(aK fin:List D)(m:List Bool)(n:Nat)(hn:n<=1000000)(hm:m.length=n)(av:List (Ar α))(h3:av.length<=100000)(hin:∀ a ∈ av,(0<=a.f/\a.f<n)/\(0<=a.t/\a.t<n))(L:List ai)
  (h2:L[2]?=some (dA kk ps sy st aK fin (.d (.n 11)))) (ht:L[3]?=some (.row 0 1 (xg m n n))) :
  ∃ px L',Ex E1 (.loop p2L) (Lj (dW m) (av.map (Ar.d e)) L n av.length 0 .u) (.exit 2,Lj (dW m) (av.map (Ar.d e)) L' n av.length av.length (dB false))/\L'[0]?=L[0]?/\L'[1]?=L[1]?/\L'[2]?=some (dA kk ps sy st aK fin px)/\X_ px L' ((oF m av).map (Ar.d e)):=by
 obtain⟨r,h1,px,L',rfl,g0,g1,g2,g3⟩:=Ex.fold (E:=E1) (b:=p2L) av (fun(p:List D) a=>if stay m a then p++[(IC m a).d e] else p) []
  (fun j aq st'=>aq.length<=j/\∃ px M,st'=Lj (dW m) (av.map (Ar.d e)) M n av.length j .u/\M[0]?=L[0]?/\M[1]?=L[1]?/\M[2]?=some (dA kk ps sy st aK fin px)/\M[3]?=some (.row 0 1 (xg m n n))/\X_ px M aq)
  (fun aq r=>∃ px M,r=(.exit 2,Lj (dW m) (av.map (Ar.d e)) M n av.length av.length (dB false))/\M[0]?=L[0]?/\M[1]?=L[1]?/\M[2]?=some (dA kk ps sy st aK fin px)/\X_ px M aq)
  (fun j a st' ha ⟨hlen,px,M,hst,q0,q1,q2,q3,q4⟩=>by
   subst hst;have hj:j<av.length:=(aU ha)
   obtain⟨⟨a1,a2⟩,a3,a4⟩:=hin a (Qa2 ha);obtain⟨qM,M',r1,r2,r3,r4,r5,r6⟩:=Ya (e:=e) kk ps sy st aK fin m n hn hm av ae M px _ ae q2 q3 q4 j a.f.toNat a.t.toNat a ha ae ae ae ae;refine⟨_,r1,?_,qM,M',rfl,r2.trans q0,r3.trans q1,r4,r5,r6⟩;split
   ·rw[Qb0,Xc2];omega
   ·omega)
  (fun st' ⟨hlen,px,M,hst,q0,q1,q2,q3,q4⟩=>by
   subst hst;have n3:(av.map (Ar.d e)).length=av.length:=aC;have:=abU (dW m) (av.map (Ar.d e)) M n;rw[n3]at this;exact⟨_,this,aC,px,M,rfl,q0,q1,q2,q4⟩)
  (st:=Lj (dW m) (av.map (Ar.d e)) L n av.length 0 .u) ⟨Qe1 _,.d (.n 11),L,rfl,rfl,rfl,h2,ht,.inl ⟨rfl,rfl⟩⟩
 rw[Ll,Qs2]at g3;exact⟨px,L',h1,g0,g1,g2,g3⟩
theorem Qn {β γ:Type}(f:β->γ)(m:List Bool)(l:List β):gu m (l.map f)=(gu m l).map f:=by
 unfold gu;rw[List.zip_map_left,List.filter_map,Q60,Q60]
 congr 1
theorem afG (kk:Int)(ps:List Int)(sy st:Int)(aK fin:List W)(m:List Bool)(n:Nat)(hn:n<=1000000)(hm:m.length=n)(hi:aK.length=n)(hf:fin.length=n)(av:List (Ar α))(h3:av.length<=100000)(hin:∀ a ∈ av,(0<=a.f/\a.f<n)/\(0<=a.t/\a.t<n)) :
  Ca E1 1512 [.d (tV kk ps sy st aK fin e av),.d (.s 1 (dW m))] (.d (tV kk ps sy (cnt m) (gu m aK) (gu m fin) e (oF m av)),none):=by
 obtain⟨K,hK,t1,t2⟩:=((Gy aK m ae ae).j ((Gy fin m ae ae).any)).at 0;obtain⟨bx,hbx⟩:∃ bx,bx=aX kk ps sy st (aK.map W.d) (fin.map W.d) (av.map (Ar.d e)):=⟨_,rfl⟩
 have hl1:=abS kk ps sy ((gu m aK).map W.d) ((gu m fin).map W.d) bx m n hn hm;have hcn:toM m n=cnt m:=by unfold toM;rw[<-hm,Qj1]
 rw[hcn]at hl1;obtain⟨px,L,hl2,k0,k1,k2,ko⟩:=abV (e:=e) kk ps sy (cnt m:Nat) ((gu m aK).map W.d) ((gu m fin).map W.d) m n hn hm av h3 hin [bx,nX,dA kk ps sy (cnt m:Nat) ((gu m aK).map W.d) ((gu m fin).map W.d) (.d (.n 11)),.row 0 1 (xg m n n)] rfl rfl;obtain⟨T,rfl⟩:=three (k0.trans rfl) (k1.trans rfl) k2;have hbl:(dW m).length=n:=by rw[qW,hm]
 have z0:xg m 0 n=List.replicate n (vI 0):=by simp[xg]
 have c0:toM m 0=0:=rfl;unfold tV;have sA:Ex E1 f1512.body.l (st0 (.d (iD kk ps sy st (aK.map W.d) (fin.map W.d) (av.map (Ar.d e)))::.d (.s 1 (dW m))::Zq) []) (.norm,(st0 (.u::.d (.s 1 (dW m))::rL 0::rL 1::agN) [bx,nX])):=by
  apply e6;rw[hbx];unfold iD aX nX;simp[f1512]
 have sB := nx sA f1512.body.r.l (st0 (.u::.d (.s 1 (dW m))::rL 0::rL 1::rL 2::G9) [bx,nX,dA kk ps sy (toM m 0:Nat) ((gu m aK).map W.d) ((gu m fin).map W.d) (.d (.n 11))]) (by
  refine Ex.of (n:=K+60) ?_;clear hl1 hl2 k0 k1 k2 ko sA hi hf;rw[hbx,c0,show((0:Nat):Int)=0 from rfl];unfold aX nX dA;generalize (gu m aK).map W.d=x4,(gu m fin).map W.d=x5,av.map (Ar.d e)=x3,aK.map W.d=x1,fin.map W.d=x2,LK .i64 ps=l9 at*;simp[f1512,t1,t2])
 have sC := nx sB f1512.body.r.r.l (st0 (.u::.d (.s 1 (dW m))::rL 0::rL 1::rL 2::.ls (.loc 3) 0 1 0 n::Jm) [bx,nX,dA kk ps sy (toM m 0:Nat) ((gu m aK).map W.d) ((gu m fin).map W.d) (.d (.n 11)),.row 0 1 (xg m 0 n)]) (by
  apply e6;have n1:(n:Int)*8<=(most:Int):=by unfold most;omega
  have n3:n<=most:=by unfold most;omega
  clear hl1 hl2 k0 k1 k2 ko sA sB t1 t2;rw[z0];simp[f1512,hbl,n1,n3])
 have sD := nx sC f1512.body.r.r.r.l.l (T_ (dW m) [bx,nX,dA kk ps sy (toM m 0:Nat) ((gu m aK).map W.d) ((gu m fin).map W.d) (.d (.n 11)),.row 0 1 (xg m 0 n)] n 0 .u) (by
  apply e6;clear hl1 hl2 k0 k1 k2 ko sA sB sC t1 t2;unfold T_;rw[show((0:Nat):Int)=0 from rfl];simp[f1512,hbl])
 have sE:Ex E1 f1512.body.r.r.r.r.l.l (T_ (dW m) [bx,nX,dA kk ps sy (cnt m:Nat) ((gu m aK).map W.d) ((gu m fin).map W.d) (.d (.n 11)),.row 0 1 (xg m n n)] n n (dB false))
   (.norm,Lj (dW m) (av.map (Ar.d e)) [bx,nX,dA kk ps sy (cnt m:Nat) ((gu m aK).map W.d) ((gu m fin).map W.d) (.d (.n 11)),.row 0 1 (xg m n n)] n av.length 0 .u):=by
  apply e6;have hel:(av.map (Ar.d e)).length=av.length:=aC;clear hl1 hl2 k0 k1 k2 ko sA sB sC sD t1 t2;unfold T_ Lj;rw[show((0:Nat):Int)=0 from rfl,hbx];unfold aX;generalize av.map (Ar.d e)=x3 at*;simp[f1512,hel]
 have sF:∃ st',Ex E1 f1512.body.r.r.r.r.r (Lj (dW m) (av.map (Ar.d e)) (bx::nX::dA kk ps sy (cnt m:Nat) ((gu m aK).map W.d) ((gu m fin).map W.d) px::T) n av.length av.length (dB false)) (.ret,st')/\finish f1512 st'=some (.d (iD kk ps sy (cnt m) ((gu m aK).map W.d) ((gu m fin).map W.d) ((oF m av).map (Ar.d e))),none):=by
  clear hl1 hl2 k0 k1 k2 sA sB sC sD sE t1 t2 hbx;unfold Lj nX dA iD;generalize (oF m av).map (Ar.d e)=q3,av.map (Ar.d e)=x3,(gu m aK).map W.d=x4,(gu m fin).map W.d=x5,dW m=bs at*;rcases ko with ⟨rfl,rfl⟩|⟨i,az,h5,rfl,h7⟩
  ·refine⟨_,Ex.of (n:=200) (by simp[f1512];rfl),?_⟩;simp[finish,show f1512.res=[.cell 3 true 7] from rfl,show f1512.ref=false from rfl]
  ·obtain⟨i',rfl⟩:∃ i',i=i'+3:=⟨i-3,ae⟩
   simp only[Xf0]at h7;have il:i'<T.length:=(aU h7)
   have i7:=idx h7;refine⟨_,Ex.of (n:=200) (by simp[f1512,h7,i7,il];rfl),?_⟩;simp[finish,show f1512.res=[.cell 3 true 7] from rfl,show f1512.ref=false from rfl,h7,i7,il,ai.view]
 obtain⟨st',e1,e2⟩:=sF;exact Ca.body (o:=.ret) rfl (aO 1512 f1512:E1.fn _=_) rfl (sA.seq (sB.seq (sC.seq (Ex.seq (sD.seq (Ex.block hl1)) (Ex.seq (sE.seq (Ex.block hl2)) e1))))) aC e2
theorem afH (A M N:D)(m:List D)(hA:∃ a b c d f g h,A=iD a b c d f g h)(hM:∃ a b c d f g h,M=iD a b c d f g h)(hN:∃ a b c d f g h,N=iD a b c d f g h)(h1:Ca E1 1506 [.d A] (.d (.t [.s 1 m,vI 0]),none))(h2:Ca E1 1512 [.d A,.d (.s 1 m)] (.d M,none))(h3:Ca E1 1024 [.d M] (.d (.t [N,vI 0]),none)) :
  Ca E1 1505 [.d A] (.d (.t [N,vI 0]),none):=by
 obtain⟨N1,t1⟩:=h1.get;obtain⟨N2,t2⟩:=h2.any;obtain⟨N3,t3⟩:=h3.any;obtain⟨aa,ab,ac,ad,af,ag,ah,rfl⟩:=hA;obtain⟨ma,mb,mc,md,mf,mg,mh,rfl⟩:=hM;obtain⟨na,nb,nc,nd,nf,ng,nh,rfl⟩:=hN;have hk:Ca E1 1511 [.d (iD aa ab ac ad af ag ah),.d (.s 1 m)] (.d (.t [iD na nb nc nd nf ng nh,vI 0]),none):=by
  obtain⟨K,hK⟩:∃ K,K=N2+N3:=⟨_,rfl⟩
  replace t2:=t2 K ae;replace t3:=t3 K ae;refine Ca.bQ (n:=K+100) ?_;rw[aB rfl (aO 1511 f1511:E1.fn _=_) rfl];clear h1 h2 h3 t1;unfold iD at*;generalize LK .i64 ab=l1,LK .i64 nb=l3 at*;simp[f1511,t2,t3,o8]
 obtain⟨N4,t4⟩:=hk.any;obtain⟨K,hK⟩:∃ K,K=N1+N4:=⟨_,rfl⟩
 replace t1:=fun k=>dL (t1 0) (show N1+0<=K+k by omega)
 replace t4:=t4 K ae;refine Ca.bQ (n:=K+100) ?_;rw[aB rfl (aO 1505 f1505:E1.fn _=_) rfl];clear h1 h2 h3 hk t2 t3;unfold iD at*;simp[f1505,t1,t4,o8]
end Fi.S
noncomputable section
namespace Fi.S
open Go Fi
set_option maxHeartbeats 8000000
section gu
variable {β:Type}
theorem lW (b:Bool)(m:List Bool)(x:β)(l:List β):gu (b::m) (x::l)=if b then x::gu m l else gu m l:=by
 unfold gu;cases b<;>simp
theorem Lm (m:List Bool):toM m 0=0:=rfl
theorem yH (b:Bool)(m:List Bool)(i:Nat):toM (b::m) (i+1)=(if b then 1 else 0)+toM m i:=by
 unfold toM cnt;rw[List.take_succ_cons,X20];cases b
 ·simp
 ·simp;omega
theorem yI (b:Bool)(m:List Bool):cnt (b::m)=(if b then 1 else 0)+cnt m:=by
 unfold cnt;rw[X20];cases b
 ·simp
 ·simp;omega
theorem uU:∀ {m:List Bool} {l:List β},m.length=l.length->(gu m l).length=cnt m
 | [],l,h=>by cases l with
  | nil=>rfl
  | cons _ _=>simp at h
 | b::m,l,h=>by cases l with
  | nil=>simp at h
  | cons x l =>
   have:=uU (m:=m) (l:=l) (by simpa using h);rw[lW,yI];cases b
   ·simpa using this
   ·simp[this];omega
theorem IE:∀ {m:List Bool} {l:List β} {s:Nat},m.length=l.length->m[s]?=some true->(gu m l)[toM m s]?=l[s]?
 | [],_,s,_,h=>by simp at h
 | b::m,[],s,h,_=>by simp at h
 | b::m,x::l,0,_,h=>by
  simp at h;subst h;rw[lW,Lm];simp
 | b::m,x::l,s+1,h,hs=>by
  have:=IE (m:=m) (l:=l) (s:=s) (by simpa using h) (by simpa using hs);rw[lW,yH,Xf0,<-this];cases b
  ·simp
  ·rw[if_pos rfl,if_pos rfl,Xm2,Xf0]
theorem IG:∀ {m:List Bool} {s:Nat},m[s]?=some true->toM m s<cnt m
 | [],s,h=>by simp at h
 | b::m,0,h=>by simp at h;subst h;rw[Lm,yI];simp;omega
 | b::m,s+1,h=>by
  have:=IG (m:=m) (s:=s) (by simpa using h);rw[yH,yI];omega
theorem Yb {m:List Bool}{i j:Nat}(h:i<=j):toM m i<=toM m j:=by
 obtain⟨d,rfl⟩:∃ d,j=i+d:=⟨j-i,ae⟩
 unfold toM cnt;rw[List.take_add,Xw1,Qb0];omega
theorem kV {m:List Bool}{i j:Nat}(h:i<j)(hi:m[i]?=some true):toM m i<toM m j:=by
 have h1:=Li hi;have h2:=Yb (m:=m) (show i+1<=j by omega);simp at h1;omega
theorem abW {m:List Bool}{i j:Nat}(hi:m[i]?=some true)(hj:m[j]?=some true)(h:toM m i=toM m j):i=j:=by
 rcases Nat.lt_trichotomy i j with g|g|g
 ·have:=kV g hi;omega
 ·exact g
 ·have:=kV g hj;omega
theorem yJ:∀ {m:List Bool} {k:Nat},k<cnt m->∃ s,m[s]?=some true/\toM m s=k
 | [],k,h=>by simp[cnt]at h
 | b::m,k,h=>by
  rw[yI]at h;cases b with
  | false =>
   obtain⟨s,h1,h2⟩:=yJ (m:=m) (k:=k) (by simpa using h);exact⟨s+1,by simpa using h1,by rw[yH];simpa using h2⟩
  | true =>
   cases k with
   | zero=>exact⟨0,rfl,rfl⟩
   | succ k =>
    obtain⟨s,h1,h2⟩:=yJ (m:=m) (k:=k) (by simp at h;omega);exact⟨s+1,by simpa using h1,by rw[yH,h2];simp;omega⟩
theorem Qo (n i:Nat)(h:i<=n):toM (List.replicate n true) i=i:=by
 unfold toM cnt;rw[List.take_replicate,List.filter_replicate];simp;omega
theorem II:∀ (l:List β),gu (List.replicate l.length true) l=l
 | []=>rfl
 | x::l=>by rw[Qf1,Xb0,lW,II l];rfl
theorem BR {m:List Bool}{l:List β}{x:β}(h:x ∈ gu m l):x ∈ l:=by
 unfold gu at h;obtain⟨p,hp,rfl⟩:=Qg1.1 h;exact(List.of_mem_zip (Qu0.1 hp).1).1
end gu
section trim
variable {α:Type} {bD:α->Bool} {pl:α->α->α}
theorem jC {m:List Bool}{a:Ar α}:stay m a=true↔m[a.f.toNat]?=some true/\m[a.t.toNat]?=some true:=by
 unfold stay;rw[Qc1,kU,kU]
theorem abX {m:List Bool}{l:List (Ar α)}(h:zT l)(h0:∀ a ∈ l,0<=a.f/\0<=a.t):zT (oF m l):=by
 unfold oF;refine Xl1.2 ?_;refine List.Pairwise.imp_of_mem (R:=iH) (fun {a b} ha hb hab => ?_) (h.sublist List.filter_sublist);obtain⟨a1,a2⟩:=Qu0.1 ha;obtain⟨b1,b2⟩:=Qu0.1 hb;obtain⟨f1,t1⟩:=jC.1 a2;obtain⟨f2,t2⟩:=jC.1 b2;have ga:=h0 a a1;have gb:=h0 b b1;show(toM m a.f.toNat:Int)<toM m b.f.toNat\/(toM m a.f.toNat:Int)=toM m b.f.toNat/\(a.l<b.l\/a.l=b.l/\(toM m a.t.toNat:Int)<toM m b.t.toNat)
 rcases hab with h|⟨h,h'⟩
 ·have:=kV (m:=m) (show a.f.toNat<b.f.toNat by omega) f1;exact .inl ae
 ·refine .inr ⟨by rw[h],?_⟩;rcases h' with h'|⟨h',h''⟩
  ·exact .inl h'
  ·have:=kV (m:=m) (show a.t.toNat<b.t.toNat by omega) t1;exact .inr ⟨h',ae⟩
theorem Yc {l:List (Ar α)}(h:zT l)(h0:∀ a ∈ l,bD a.x=false):dG pl bD l=l:=by
 show(bX pl l).filter (fun a => !bD a.x)=l;rw[El h,Xn1];intro a ha;simp[h0 a ha]
theorem yK {m:List Bool}{l:List (Ar α)}{a:Ar α}(h:a ∈ oF m l):∃ b ∈ l,stay m b=true/\a=IC m b:=by
 obtain⟨b,hb,rfl⟩:=Qg1.1 h;obtain⟨h1,h2⟩:=Qu0.1 hb;exact⟨b,h1,h2,rfl⟩
theorem Yd {m:List Bool}{l:List (Ar α)}(h0:∀ a ∈ l,0<=a.f/\0<=a.t):dG pl bD (oF m (dG pl bD l))=oF m (dG pl bD l):=by
 have h1:∀ a ∈ dG pl bD l,0<=a.f/\0<=a.t:=fun a ha=>by
  obtain⟨b,hb,e1,e2,e3⟩:=(mY (pl:=pl) (l:=l) a).1 ⟨a,(Qu0.1 ha).1,rfl,rfl,rfl⟩;rw[<-e1,<-e3];exact h0 b hb
 refine Yc (abX (Gt bD l) h1) fun a ha => ?_
 obtain⟨b,hb,_,rfl⟩:=yK ha;have:=(Qu0.1 hb).2;show bD b.x=false;simpa using this
theorem abY {n:Nat}{l:List (Ar α)}(h:∀ a ∈ l,(0<=a.f/\a.f<n)/\(0<=a.t/\a.t<n)):oF (List.replicate n true) l=l:=by
 unfold oF;have e1:l.filter (stay (List.replicate n true))=l:=by
  rw[Xn1];intro a ha;obtain⟨h1,h2⟩:=h a ha;rw[jC,Qu2,Qu2,if_pos ae,if_pos ae];exact⟨rfl,rfl⟩
 rw[e1];refine(Xb1 fun a ha => ?_).trans (List.map_id l);obtain⟨h1,h2⟩:=h a ha;unfold IC Ar.mv;rw[Qo _ _ ae,Qo _ _ ae,Xo0 h1.1,Xo0 h2.1];rfl
theorem Lp {m m':List Bool}{st st':List (Nat × Nat)}{σ:Nat->Nat}{C:Nat->Prop}(hC:∀ p q,(p,q) ∈ st->C q->C p)(hb:∀ s:Nat,m[s]?=some true->C s->m'[σ s]?=some true)
  (hs:∀ p q,(p,q) ∈ st->yE m st p->C q->(σ p,σ q) ∈ st') {s:Nat} (h:yE m st s):C s->yE m' st' (σ s):=by
 induction h with
 | base h=>intro c;exact .base (hb _ h c)
 | @step p q he g ih=>intro c;exact .step (hs p q he g c) (ih (hC p q he c))
variable {aK fin:List α} {l:List (Ar α)} {n:Nat}
theorem BS (h1:aK.length=n)(h2:fin.length=n){s:Nat}:(vz bD aK fin l)[s]?=some true↔s<n/\yE (nY bD aK) (mZ l) s/\yE (nY bD fin) (T9 l) s:=by
 unfold vz;rw[afC,IB,IB];have e1:(nY bD aK).length=n:=by simp[nY,h1]
 have e2:(nY bD fin).length=n:=by simp[nY,h2]
 rw[e1,e2];exact⟨fun⟨⟨a,b⟩,_,c⟩=>⟨a,b,c⟩,fun⟨a,b,c⟩=>⟨⟨a,b⟩,a,c⟩⟩
theorem uV {p q:Nat}:(p,q) ∈ mZ l↔∃ a ∈ l,a.f.toNat=p/\a.t.toNat=q:=by
 unfold mZ;rw[Qg1];exact⟨fun⟨a,h1,h2⟩=>⟨a,h1,by cases h2;exact⟨rfl,rfl⟩⟩,fun⟨a,h1,h2,h3⟩=>⟨a,h1,by rw[h2,h3]⟩⟩
theorem uW {p q:Nat}:(p,q) ∈ T9 l↔∃ a ∈ l,a.t.toNat=p/\a.f.toNat=q:=by
 unfold T9;rw[Qg1];exact⟨fun⟨a,h1,h2⟩=>⟨a,h1,by cases h2;exact⟨rfl,rfl⟩⟩,fun⟨a,h1,h2,h3⟩=>⟨a,h1,by rw[h2,h3]⟩⟩
theorem Ye (h1:aK.length=n)(h2:fin.length=n)(hin:∀ a ∈ l,(0<=a.f/\a.f<n)/\(0<=a.t/\a.t<n)) :
  vz bD (gu (vz bD aK fin l) aK) (gu (vz bD aK fin l) fin) (oF (vz bD aK fin l) l)=List.replicate (cnt (vz bD aK fin l)) true:=by
 have hul:(vz bD aK fin l).length=n:=by rw[qV bD ae l,h1]
 generalize hu:vz bD aK fin l=u at*;have ui:∀ {s:Nat},u[s]?=some true↔s<n/\yE (nY bD aK) (mZ l) s/\yE (nY bD fin) (T9 l) s:=fun {s}=>by rw[<-hu];exact BS h1 h2
 have s1:(gu u aK).length=cnt u:=uU ae;have s2:(gu u fin).length=cnt u:=uU ae;have mk:∀ {xs:List α} {s:Nat},xs.length=n->u[s]?=some true->(nY bD xs)[s]?=some true->(nY bD (gu u xs))[toM u s]?=some true:=fun {xs s} hx hs h=>by
  unfold nY at*;rw[Qc0]at*;rw[IE ae hs];exact h
 refine Lf (by rw[qV bD ae,s1,Q2]) fun k=>⟨fun h => ?_,fun h => ?_⟩
 ·have:=(aU h)
  rw[qV bD ae,s1]at this;rw[Qu2,if_pos this]
 ·have hk:k<cnt u:=by
   have:=(aU h)
   simpa using this
  obtain⟨s,hs,rfl⟩:=yJ hk;obtain⟨g1,g2,g3⟩:=ui.1 hs;have ms:∀ {xs:List α} {s:Nat},xs.length=n->(nY bD xs)[s]?=some true->s<n:=fun {xs s} hx h=>by
   have:=(aU h)
   simpa[nY,hx] using this
  rw[BS s1 s2];refine⟨hk,Lp (C:=fun s=>s<n/\yE (nY bD fin) (T9 l) s) (fun p q he ⟨_,c⟩ => ?_) (fun s hb ⟨c0,c⟩=>mk h1 (ui.2 ⟨c0,.base hb,c⟩) hb) (fun p q he hp ⟨c0,c⟩ => ?_) g2 ⟨g1,g3⟩,
   Lp (C:=fun s=>s<n/\yE (nY bD aK) (mZ l) s) (fun p q he ⟨_,c⟩ => ?_) (fun s hb ⟨c0,c⟩=>mk h2 (ui.2 ⟨c0,c,.base hb⟩) hb) (fun p q he hp ⟨c0,c⟩ => ?_) g3 ⟨g1,g2⟩⟩
  ·obtain⟨a,ha,rfl,rfl⟩:=uV.1 he;obtain⟨i1,i2⟩:=hin a ha;exact⟨ae,.step (uW.2 ⟨a,ha,rfl,rfl⟩) c⟩
  ·obtain⟨a,ha,rfl,rfl⟩:=uV.1 he;obtain⟨i1,i2⟩:=hin a ha;have k1:=ui.2 ⟨show a.f.toNat<n by omega,hp,.step (uW.2 ⟨a,ha,rfl,rfl⟩) c⟩;have k2:=ui.2 ⟨show a.t.toNat<n by omega,.step he hp,c⟩;exact uV.2 ⟨IC u a,Qg1.2 ⟨a,Qu0.2 ⟨ha,jC.2 ⟨k1,k2⟩⟩,rfl⟩,Q42 _,Q42 _⟩
  ·obtain⟨a,ha,rfl,rfl⟩:=uW.1 he;obtain⟨i1,i2⟩:=hin a ha;exact⟨ae,.step (uV.2 ⟨a,ha,rfl,rfl⟩) c⟩
  ·obtain⟨a,ha,rfl,rfl⟩:=uW.1 he;obtain⟨i1,i2⟩:=hin a ha;have k1:=ui.2 ⟨show a.t.toNat<n by omega,.step (uV.2 ⟨a,ha,rfl,rfl⟩) c,hp⟩;have k2:=ui.2 ⟨show a.f.toNat<n by omega,c,.step he hp⟩;exact uW.2 ⟨IC u a,Qg1.2 ⟨a,Qu0.2 ⟨ha,jC.2 ⟨k2,k1⟩⟩,rfl⟩,Q42 _,Q42 _⟩
end trim
end Fi.S
noncomputable section
namespace Fi.S
open Go Fi
set_option maxHeartbeats 8000000
set_option maxRecDepth 10000
variable {α:Type} {e:α->W}
def zrL:aG:=f3537.body.r.r.l.r.bl.lp
def Ua (n:Nat)(out:FV)(j:Nat)(t:FV)(L:List ai):St :=
 (st0 [.u,dI n,rL 0,.u,out,dI j,t] L)
def abZ (kk:Int)(ps:List Int)(z:W)(j:Nat)(out:FV)(L:List ai):Prop:=(j=0/\out=.d (.n 8)/\L=[aI kk ps])\/(0<j/\out=.ls (.loc 1) (j-1) 8 0 j/\L=[aI kk ps,.row (j-1) 8 (List.replicate j z.d)])
theorem Yf (kk:Int)(ps:List Int)(z:W)(n j:Nat)(hn:n<=1000000)(hj:j<n)(out:FV)(L:List ai)(ho:abZ kk ps z j out L)(hz:Ca E1 35 [.d (aV kk ps)] (.d z.d,none)) :
  ∃ out' L',Ex E1 zrL (Ua n out j .u L) (.norm,Ua n out' (j+1) .u L')/\abZ kk ps z (j+1) out' L':=by
 obtain⟨N,t⟩:=hz.get;have hjn:(j:Int)<(n:Int):=ae;have aS:ak .i64 ((j:Int)+1)=(j:Int)+1:=wrap_i64 ae;have hk1:((j+1:Nat):Int)=(j:Int)+1:=ae;obtain⟨s,l1,l2,c,b,u,p,q,ez⟩:=z.aP;have hrep:List.replicate (j+1) z.d=List.replicate j z.d++[z.d]:=List.replicate_succ';rcases ho with ⟨rfl,rfl,rfl⟩|⟨h0,rfl,rfl⟩
 ·have hn0:0<n:=hj;refine⟨.ls (.loc 1) 0 8 0 1,[aI kk ps,.row 0 8 [z.d]],Ex.of (n:=N+100) ?_,.inr ⟨ae,rfl,rfl⟩⟩;unfold Ua;rw[hk1];rw[ez]at t ⊢;unfold aI aV wD at*;generalize LK .i64 ps=l9 at*;simp[zrL,f3537,t,hjn,hn0,aS,NZ,most]
 ·refine⟨.ls (.loc 1) j 8 0 (j+1),[aI kk ps,.row j 8 (List.replicate j z.d++[z.d])],Ex.of (n:=N+100) ?_,.inr ⟨ae,by rw[Q22],by rw[Q22,hrep]⟩⟩;unfold Ua;rw[hk1];have hl:(List.replicate j z.d).length=j:=Q2;have m1:(j+1)*128<=most:=by unfold most;omega
  have m2:j+1<=most:=by unfold most;omega
  have hv:j-1+1=j:=ae;generalize List.replicate j z.d=es at*;rw[ez]at t ⊢;have tk:es.take j=es:=by rw[<-hl,Qj1]
  unfold aI aV wD at*;simp[zrL,f3537,t,hjn,aS,m1,m2,hl,hv,tk]
theorem SL (kk:Int)(ps:List Int)(z:W)(n:Nat)(hn:n<=1000000)(h0:0<n)(hz:Ca E1 35 [.d (aV kk ps)] (.d z.d,none)) :
  ∃ N,∀ m,CL E1 (N+m) 3537 [.d (aV kk ps),dI n] []=some (.ls (.old 1) (n-1) 8 0 n,some [aI kk ps,.row (n-1) 8 (List.replicate n z.d)]):=by
 obtain⟨r,h1,out,L,h2,h3⟩:=Ex.inv (E:=E1) (b:=zrL) (fun a:Nat × FV × List ai=>Ua n a.2.1 a.1 .u a.2.2) (fun a=>n-a.1) (fun a=>a.1<=n/\abZ kk ps z a.1 a.2.1 a.2.2) (fun r=>∃ out L,r=(.exit 0,Ua n out n (dB false) L)/\abZ kk ps z n out L) (fun a ⟨g0,g1⟩=>by
  obtain⟨j,out,L⟩:=a;simp only at g0 g1 ⊢;rcases Qg0 j n with h|h
  ·obtain⟨out',L',k1,k2⟩:=Yf kk ps z n j hn h out L g1 hz;exact .inl ⟨(j+1,out',L'),k1,by simp only;omega,by simp only;omega,k2⟩
  ·obtain rfl:j=n:=ae;refine .inr ⟨_,Ex.of (n:=60) (r:=(.exit 0,Ua j out j (dB false) L)) ?_,aC,out,L,rfl,g1⟩;unfold Ua;simp[zrL,f3537]) (0,.d (.n 8),[aI kk ps]) ⟨Qz2 _,.inl ⟨rfl,rfl,rfl⟩⟩
 subst h2;rcases h3 with ⟨rfl,_⟩|⟨_,rfl,rfl⟩
 ·omega
 have sA:Ex E1 f3537.body.l (st0 (.d (aV kk ps)::dI n::jP) []) (.norm,(st0 (.u::dI n::rL 0::rJ) [aI kk ps])):=by
  apply e6;unfold aV aI;simp[f3537]
 have sB := nx sA f3537.body.r.l (st0 [.u,dI n,rL 0,.u,.d (.n 8),.u,.u] [aI kk ps]) (by
  apply e6;simp[f3537])
 have sC := nx sB f3537.body.r.r.l.l (Ua n (.d (.n 8)) 0 .u [aI kk ps]) (by
  apply e6;unfold Ua;rw[show((0:Nat):Int)=0 from rfl];simp[f3537])
 have sD:Ex E1 f3537.body.r.r.r (Ua n (.ls (.loc 1) (n-1) 8 0 n) n (dB false) [aI kk ps,.row (n-1) 8 (List.replicate n z.d)]) (.ret,(st0 [.u,.u,.u,.ls (.loc 1) (n-1) 8 0 n,.u,.u,.u] [aI kk ps,.row (n-1) 8 (List.replicate n z.d)])):=by
  apply e6;unfold Ua;simp[f3537]
 refine tY (E:=E1) (g:=3537) (B:=[]) (args:=[.d (aV kk ps),dI n]) rfl (k3537:E1.fn _=_) rfl (sA.seq (sB.seq (Ex.seq (sC.seq (Ex.block h1)) sD))) aC ?_;have hb:∀ m,ai.aA m (aI kk ps)=aI kk ps:=j_ [vI kk,.s 1 (LK .i64 ps)];simp[finish,dX,show f3537.res=[.var 3] from rfl,show f3537.ref=true from rfl,hb,mU,FV.aA]
def tZ (pl tm:α->α->α)(z:α)(s:Int)(v out:List α)(a:Ar α):List α:=if a.l=s then out.set a.t.toNat (pl (out.getD a.t.toNat z) (tm (v.getD a.f.toNat z) a.x)) else out
def dU (pl tm:α->α->α)(z:α)(n:Nat)(av:List (Ar α))(s:Int)(v:List α):List α:=av.foldl (tZ pl tm z s v) (List.replicate n z)
theorem Et (pl tm:α->α->α)(z:α)(s:Int)(v out:List α)(a:Ar α):(tZ pl tm z s v out a).length=out.length:=by unfold tZ;split<;>simp
theorem Qp (pl tm:α->α->α)(z:α)(s:Int)(v:List α):∀ (l:List (Ar α)) (out:List α),(l.foldl (tZ pl tm z s v) out).length=out.length
 | [],_=>rfl
 | a::l,out=>by rw[Qk2,Qp pl tm z s v l,Et]
theorem f_ (pl tm:α->α->α)(z:α)(n:Nat)(av:List (Ar α))(s:Int)(v:List α):(dU pl tm z n av s v).length=n:=by unfold dU;rw[Qp,Q2]
def snL:aG:=f1534.body.r.r.l.r.bl.lp
def Qq (v:List D)(s:Int)(io az n j:Nat)(t:FV)(L:List ai):St :=
 (st0 [.u,.d (.s 8 v),dI s,rL 0,.u,.ls (.loc io) az 8 0 n,dI j,.u,t,.u] L)
theorem Yg (kk:Int)(ps:List Int)(sy st:Int)(aK fin:List D)(av:List (Ar α))(hn:av.length<=1000000)(v:List α)(s:Int)(io az n j:Nat)(hio:io≠0)(L:List ai)(a:Ar α)(ha:av[j]?=some a)(f t:Nat)(hf:a.f=(f:Int))(ht:a.t=(t:Int))
  (h0:L[0]?=some (aX kk ps sy st aK fin (av.map (Ar.d e)))) (R:List α) (hR:R.length=n) (h1:L[io]?=some (.row az 8 (R.map fun x=>(e x).d))) (vf rt p q:α) (hvf:v[f]?=some vf) (hrt:R[t]?=some rt)
  (c1:a.l=s->Ca E1 21 [.d (aV kk ps),.d (e vf).d,.d (e a.x).d] (.d (e p).d,none)) (c2:a.l=s->Ca E1 19 [.d (aV kk ps),.d (e rt).d,.d (e p).d] (.d (e q).d,none)) :
  ∃ b,Dat b/\Ex E1 snL (Qq (v.map fun x=>(e x).d) s io az n j .u L) (.norm,Qq (v.map fun x=>(e x).d) s io az n (j+1) .u ((if a.l=s then L.set io (.row az 8 ((R.set t q).map fun x=>(e x).d)) else L)++[b])):=by
 refine⟨jk e a,SC _,?_⟩;have hj:j<av.length:=(aU ha)
 have hj0:(0:Int)<=(j:Int):=ae;have hjl:(j:Int)<(av.length:Int):=ae;have aS:ak .i64 ((j:Int)+1)=(j:Int)+1:=wrap_i64 ae;have hk1:((j+1:Nat):Int)=(j:Int)+1:=ae;have e1:(av.map (Ar.d e))[j]?=some (a.d e):=by simp[ha]
 have hel:(av.map (Ar.d e)).length=av.length:=aC;have e2:(v.map fun x=>(e x).d)[f]?=some (e vf).d:=by simp[hvf]
 have e3:(R.map fun x=>(e x).d)[t]?=some (e rt).d:=by simp[hrt]
 have f0:(0:Int)<=(f:Int):=ae;have t0:(0:Int)<=(t:Int):=ae;have tR:t<R.length:=(aU hrt)
 have tn:(t:Int)<(n:Int):=ae;have l0:0<L.length:=(aU h0)
 have l1:io<L.length:=(aU h1)
 have g0:∀ X,(L++X)[0]?=some (aX kk ps sy st aK fin (av.map (Ar.d e))):=fun X=>by rw[Qa0 l0];exact h0
 have g1:∀ X,(L++X)[io]?=some (.row az 8 (R.map fun x=>(e x).d)):=fun X=>by rw[Qa0 l1];exact h1
 have sA:∀ b b':ai,(L++[b]).set L.length b'=L++[b']:=fun b b'=>by simp
 have hg:∀ b:ai,(L++[b])[L.length]?=some b:=fun b=>by simp
 have s1:∀ X r,(L++X).set io r=L.set io r++X:=fun X r=>Qr2 _ _ l1
 rw[Q52];obtain⟨as',w1,w3,ac,ab,au,ap,aq,ew,ed⟩:=a.fH e;obtain⟨vs,RH,RI,vc,vb,vu,vp,vq,evf⟩:=(e vf).aP;obtain⟨rs,rl1,rl2,rc,rb,ru,rp,rq,ert⟩:=(e rt).aP;obtain⟨ps',Zh,RS,pc,pb,pu,pp,pq,ep⟩:=(e p).aP;obtain⟨qs',ql1,ql2,qc,qb,qu,qp,qq,eq⟩:=(e q).aP;unfold jk;rw[ed]at e1 ⊢;rw[hf,ht]at e1 ⊢;rw[evf]at e2 c1;rw[ert]at e3 c2;rw[ew]at c1;rw[ep]at c1 c2;rw[eq]at c2 ⊢;clear ew ed evf ert ep eq;unfold aX pQ aV wD at*;simp only[D.cells,Qd2,Qc2];generalize av.map (Ar.d e)=x3 at*;generalize hRd:(R.map fun x=>(e x).d)=rd at*;have hrl:rd.length=n:=by rw[<-hRd];simpa using hR
 clear hRd;generalize (v.map fun x=>(e x).d)=vd at*;have i1:=idx e1;have fJ:j<x3.length:=(aU e1)
 have i2:=idx e2;have i3:=idx e3;have q2:f<vd.length:=(aU e2)
 have q3:t<rd.length:=(aU e3)
 have i4:=fun X=>idx (g0 X)
 have i5:=fun X=>idx (g1 X)
 have i6:=idx h0
 by_cases hs:a.l=s
 ·obtain⟨K,hK,t1,t2⟩:=((c1 hs).j ((c2 hs).any)).at 0;rw[if_pos hs];refine Ex.of (n:=K+400) ?_;unfold Qq;rw[hk1];clear c1 c2;subst hs;simp (maxSteps:=400000) [snL,f1534,hj0,hjl,fJ,hel,aS,f0,t0,tn,t1,t2,e1,e2,e3,i1,i2,i3,i4,i5,i6,q2,q3,g0,g1,h0,h1,hg,sA,s1,l0,l1]
 ·rw[if_neg hs];have hs2:(a.l==s)=false:=by rw[beq_eq_false_iff_ne];exact hs
  refine Ex.of (n:=400) ?_;unfold Qq;rw[hk1];clear c1 c2;simp (maxSteps:=400000) [snL,f1534,hj0,hjl,fJ,hel,aS,e1,i1,i4,i6,g0,h0,hg,sA,l0,hs,hs2]
theorem getD_at {β:Type}{l:List β}{i:Nat}{z:β}(h:i<l.length):l[i]?=some (l.getD i z):=by
 rw[Qh1,Qa1 h];rfl
theorem ab0 (kk:Int)(ps:List Int)(sy st:Int)(aK fin av:List D)(v:List D)(s:Int)(io az n:Nat)(L:List ai)(h0:L[0]?=some (aX kk ps sy st aK fin av)) :
  Ex E1 snL (Qq v s io az n av.length .u L) (.exit 0,Qq v s io az n av.length (dB false) L):=by
 apply e6;have l0:0<L.length:=(aU h0)
 unfold Qq;unfold aX at h0;have i0:=idx h0;simp[snL,f1534,h0,i0,l0]
theorem SN (kk:Int)(ps:List Int):∀ m,CL E1 (100+m) 3537 [.d (aV kk ps),dI 0] []=some (.d (.n 8),none):=fun m=>by
 rw[show 100+m=m+100 by omega,aB rfl (k3537:E1.fn _=_) rfl];unfold aV;simp[aF,f3537]
theorem ab1 (kk:Int)(ps:List Int)(sy:Int)(n:Nat)(hn:n<=100000)(aK fin:List D)(av:List (Ar α))(ha:av.length<=100000)(hin:∀ a ∈ av,(0<=a.f/\a.f<n)/\(0<=a.t/\a.t<n))(v:List α)(hv:v.length=n)(s:Int)(pl tm:α->α->α)(z:α)(hz:Ca E1 35 [.d (aV kk ps)] (.d (e z).d,none))
  (hc:∀ (j:Nat) (a:Ar α),av[j]?=some a->a.l=s->Ca E1 21 [.d (aV kk ps),.d (e (v.getD a.f.toNat z)).d,.d (e a.x).d] (.d (e (tm (v.getD a.f.toNat z) a.x)).d,none) /\
   Ca E1 19 [.d (aV kk ps),.d (e (((av.take j).foldl (tZ pl tm z s v) (List.replicate n z)).getD a.t.toNat z)).d,.d (e (tm (v.getD a.f.toNat z) a.x)).d] (.d (e (pl (((av.take j).foldl (tZ pl tm z s v) (List.replicate n z)).getD a.t.toNat z) (tm (v.getD a.f.toNat z) a.x))).d,none)) :
  Ca E1 1534 [.d (iD kk ps sy n aK fin (av.map (Ar.d e))),.d (.s 8 (v.map fun x=>(e x).d)),dI s] (.d (.s 8 ((dU pl tm z n av s v).map fun x=>(e x).d)),none):=by
 obtain⟨bx,hbx⟩:∃ bx,bx=aX kk ps sy n aK fin (av.map (Ar.d e)):=⟨_,rfl⟩
 have sA:Ex E1 f1534.body.l (st0 [.d (iD kk ps sy n aK fin (av.map (Ar.d e))),.d (.s 8 (v.map fun x=>(e x).d)),dI s,.u,.u,.u,.u,.u,.u,.u] []) (.norm,(st0 [.u,.d (.s 8 (v.map fun x=>(e x).d)),dI s,rL 0,.u,.u,.u,.u,.u,.u] [bx])):=by
  apply e6;rw[hbx];unfold iD aX;simp[f1534]
 rcases Qr1 n with h0|h0
 ·subst h0;have hnil:av=[]:=by
   cases av with
   | nil=>rfl
   | cons a l=>have:=hin a aC;omega
  subst hnil;have hv0:v=[]:=Xj0.1 hv;subst hv0;obtain⟨K,t⟩:∃ K,∀ m,CL E1 (K+m) 3537 [.d (aV kk ps),dI 0] []=some (.d (.n 8),none):=⟨100,SN kk ps⟩
  have sB:∃ st',Ex E1 f1534.body.r (st0 (.u::.d (.s 8 [])::dI s::rL 0::rM) [bx]) (.ret,st')/\finish f1534 st'=some (.d (.s 8 []),none):=by
   rw[hbx];clear sA hbx hc;unfold aX aV at*;generalize LK .i64 ps=l9 at*;refine⟨_,Ex.of (n:=K+200) (by
    simp[aF,f1534,t];rfl),?_⟩
   simp[finish,show f1534.res=[.var 4] from rfl,show f1534.ref=false from rfl]
  obtain⟨st',e1,e2⟩:=sB;exact Ca.body (o:=.ret) rfl (k1534:E1.fn _=_) rfl (sA.seq e1) aC e2
 ·obtain⟨N,t⟩:=SL kk ps (e z) n ae h0 hz;obtain⟨r,h1,L,h2,k0,k1⟩:=Ex.fold (E:=E1) (b:=snL) av (tZ pl tm z s v) (List.replicate n z)
   (fun j acc st=>acc.length=n/\∃ L,st=Qq (v.map fun x=>(e x).d) s 2 (n-1) n j .u L/\L[0]?=some bx/\L[2]?=some (.row (n-1) 8 (acc.map fun x=>(e x).d)))
   (fun acc r=>∃ L,r=(.exit 0,Qq (v.map fun x=>(e x).d) s 2 (n-1) n av.length (dB false) L)/\L[0]?=some bx/\L[2]?=some (.row (n-1) 8 (acc.map fun x=>(e x).d)))
   (fun j a st hj ⟨g0,L,hst,g1,g2⟩=>by
    subst hst;obtain⟨⟨a1,a2⟩,a3,a4⟩:=hin a (Qa2 hj);obtain⟨b,hb,k⟩:=Yg (e:=e) kk ps sy n aK fin av ae v s 2 (n-1) n j ae L a hj a.f.toNat a.t.toNat ae ae (hbx ▸ g1) _ g0 g2 (v.getD a.f.toNat z) _ (tm (v.getD a.f.toNat z) a.x) _ (getD_at ae) (getD_at (z:=z) ae) (fun h=>(hc j a hj h).1) (fun h=>(hc j a hj h).2);have l2:2<L.length:=(aU g2)
    refine⟨_,k,by rw[Et];exact g0,_,rfl,?_,?_⟩
    ·split
     ·rw[Qa0 (by simp;omega),Qb2 ae];exact g1
     ·rw[Qa0 ae];exact g1
    ·unfold tZ;split
     ·rw[Qa0 (by simpa using l2),Qd0 l2]
     ·rw[Qa0 l2];exact g2)
   (fun st ⟨g0,L,hst,g1,g2⟩=>by
    subst hst;have:=ab0 kk ps sy n aK fin (av.map (Ar.d e)) (v.map fun x=>(e x).d) s 2 (n-1) n L (hbx ▸ g1);rw[show(av.map (Ar.d e)).length=av.length by simp]at this;exact⟨_,this,aC,L,rfl,g1,g2⟩)
   (st:=Qq (v.map fun x=>(e x).d) s 2 (n-1) n 0 .u [bx,aI kk ps,.row (n-1) 8 (List.replicate n (e z).d)]) ⟨Q2,_,rfl,rfl,by simp[List.map_replicate]⟩
  subst h2
  change L[2]?=some (.row (n-1) 8 ((dU pl tm z n av s v).map fun x=>(e x).d)) at k1
  have hsl:((dU pl tm z n av s v).map fun x=>(e x).d).length=n:=by rw[Ql1,f_]
  generalize (dU pl tm z n av s v).map (fun x=>(e x).d)=rs at*;generalize (v.map fun x=>(e x).d)=vd at*;clear hc;have sB:Ex E1 f1534.body.r.l (st0 (.u::.d (.s 8 vd)::dI s::rL 0::rM) [bx]) (.norm,(st0 (.u::.d (.s 8 vd)::dI s::rL 0::.u::.ls (.loc 2) (n-1) 8 0 n::rJ) [bx,aI kk ps,.row (n-1) 8 (List.replicate n (e z).d)])):=by
   refine Ex.of (n:=N+100) ?_;clear h1 sA;rw[hbx];generalize List.replicate n (e z).d=zs at*;unfold aX aV aI at*;generalize av.map (Ar.d e)=x3 at*;simp[f1534,t,FV.shift,FV.gG,ai.shift]
  have sC := nx sB f1534.body.r.r.l.l (Qq vd s 2 (n-1) n 0 .u [bx,aI kk ps,.row (n-1) 8 (List.replicate n (e z).d)]) (by
   apply e6;unfold Qq;rw[show((0:Nat):Int)=0 from rfl];simp[f1534])
  have sD:∃ st',Ex E1 f1534.body.r.r.r (Qq vd s 2 (n-1) n av.length (dB false) L) (.ret,st')/\finish f1534 st'=some (.d (.s 8 rs),none):=by
   clear h1 sA sB sC t;have l2:2<L.length:=(aU k1)
   have i2:=idx k1;have tk:rs.take n=rs:=by rw[<-hsl,Qj1]
   refine⟨_,Ex.of (n:=60) (by unfold Qq;simp[f1534];rfl),?_⟩;simp[finish,show f1534.res=[.var 4] from rfl,show f1534.ref=false from rfl,k1,i2,l2,hsl,tk,ai.view]
  obtain⟨st',e1,e2⟩:=sD;exact Ca.body (o:=.ret) rfl (k1534:E1.fn _=_) rfl (sA.seq (sB.seq (Ex.seq (sC.seq (Ex.block h1)) e1))) aC e2
end Fi.S
noncomputable section
namespace Fi.S
open Go Fi
set_option maxHeartbeats 8000000
set_option maxRecDepth 10000
variable {α:Type} {e:α->W}
def t_ (pl tm:α->α->α)(z:α)(v w:List α):α:=(v.zip w).foldl (fun acc p=>pl acc (tm p.1 p.2)) z
def wcX (w:W):ai:=.box (w.d.cells.map .d)
def wX0:ai:=.box [dB false,.d (.n 1),.d (.n 1),dI 0,dB false,.d (.v (.int .u64 0)),.d (.n 6),.d (.n 8)]
def doL:aG:=f1532.body.r.r.l.r.bl.lp
def Zn (kk:Int)(ps:List Int)(v w:List D)(acc:W)(j:Nat)(t:FV):St :=
 (st0 [.u,.d (.s 8 v),.d (.s 8 w),rL 0,rL 1,rL 2,dI j,t] [aI kk ps,wX0,wcX acc])
theorem Yh (kk:Int)(ps:List Int)(v w:List α)(n j:Nat)(hn:n<=1000000)(hv:v.length=n)(hw:w.length=n)(acc x y:α)(hx:v[j]?=some x)(hy:w[j]?=some y)(p q:α)
  (c1:Ca E1 21 [.d (aV kk ps),.d (e x).d,.d (e y).d] (.d (e p).d,none)) (c2:Ca E1 19 [.d (aV kk ps),.d (e acc).d,.d (e p).d] (.d (e q).d,none)) :
  Ex E1 doL (Zn kk ps (v.map fun x=>(e x).d) (w.map fun x=>(e x).d) (e acc) j .u) (.norm,Zn kk ps (v.map fun x=>(e x).d) (w.map fun x=>(e x).d) (e q) (j+1) .u):=by
 have hj:j<v.length:=(aU hx)
 have hj0:(0:Int)<=(j:Int):=ae;have aS:ak .i64 ((j:Int)+1)=(j:Int)+1:=wrap_i64 ae;have hk1:((j+1:Nat):Int)=(j:Int)+1:=ae;have e1:(v.map fun x=>(e x).d)[j]?=some (e x).d:=by simp[hx]
 have e2:(w.map fun x=>(e x).d)[j]?=some (e y).d:=by simp[hy]
 have l1:(v.map fun x=>(e x).d).length=n:=by simpa using hv
 have l2:(w.map fun x=>(e x).d).length=n:=by simpa using hw
 have hjn:(j:Int)<(n:Int):=ae;obtain⟨K,hK,t1,t2⟩:=(c1.j c2.any).at 0;obtain⟨vs,RH,RI,vc,vb,vu,vp,vq,ex⟩:=(e x).aP;obtain⟨rs,rl1,rl2,rc,rb,ru,rp,rq,ey⟩:=(e y).aP;obtain⟨ps',Zh,RS,pc,pb,pu,pp,pq,ep⟩:=(e p).aP;obtain⟨qs',ql1,ql2,qc,qb,qu,qp,qq,eq⟩:=(e q).aP;obtain⟨as',al1,al2,ac,ab,au,ap,aq,ea⟩:=(e acc).aP;unfold Zn wcX wX0;rw[hk1];rw[ex]at e1 t1;rw[ey]at e2 t1;rw[ep]at t1 t2;rw[eq]at t2 ⊢;rw[ea]at t2 ⊢;clear c1 c2 ex ey ep eq ea;unfold aI aV wD at*;generalize (v.map fun x=>(e x).d)=vd,(w.map fun x=>(e x).d)=wd at*;have i1:=idx e1;have i2:=idx e2;have q1:j<vd.length:=ae;have q2:j<wd.length:=ae;refine Ex.of (n:=K+300) ?_;simp (maxSteps:=400000) [doL,f1532,hj0,hjn,aS,t1,t2,e1,e2,i1,i2,q1,q2,l1,l2]
theorem afK (kk:Int)(ps:List Int)(v w:List α)(n:Nat)(hn:n<=100000)(hv:v.length=n)(hw:w.length=n)(pl tm:α->α->α)(z:α)(hz:Ca E1 35 [.d (aV kk ps)] (.d (e z).d,none))
  (hc:∀ (j:Nat) (x y:α),v[j]?=some x->w[j]?=some y->Ca E1 21 [.d (aV kk ps),.d (e x).d,.d (e y).d] (.d (e (tm x y)).d,none)/\Ca E1 19 [.d (aV kk ps),.d (e (t_ pl tm z (v.take j) (w.take j))).d,.d (e (tm x y)).d] (.d (e (pl (t_ pl tm z (v.take j) (w.take j)) (tm x y))).d,none)) :
  Ca E1 1532 [.d (aV kk ps),.d (.s 8 (v.map fun x=>(e x).d)),.d (.s 8 (w.map fun x=>(e x).d))] (.d (e (t_ pl tm z v w)).d,none):=by
 have hs:∀ j,j<n->t_ pl tm z (v.take (j+1)) (w.take (j+1))=pl (t_ pl tm z (v.take j) (w.take j)) (tm (v.getD j z) (w.getD j z)):=fun j hj=>by
  unfold t_;rw[Qi1 ae,Qi1 ae,List.zip_append (by simp;omega),Xl2,Qh1,Qh1,Qa1 ae,Qa1 ae];rfl
 obtain⟨r,h1,h2⟩:=Ex.inv (E:=E1) (b:=doL) (fun j:Nat=>Zn kk ps (v.map fun x=>(e x).d) (w.map fun x=>(e x).d) (e (t_ pl tm z (v.take j) (w.take j))) j .u) (fun j=>n-j) (fun j=>j<=n) (fun r=>r=(.exit 0,Zn kk ps (v.map fun x=>(e x).d) (w.map fun x=>(e x).d) (e (t_ pl tm z v w)) n (dB false))) (fun j hj=>by
  rcases Qg0 j n with h|h
  ·have g1:v[j]?=some (v.getD j z):=getD_at ae;have g2:w[j]?=some (w.getD j z):=getD_at ae;obtain⟨c1,c2⟩:=hc j _ _ g1 g2;have k:=Yh (e:=e) kk ps v w n j ae hv hw _ _ _ g1 g2 _ _ c1 c2;rw[<-hs j h]at k;exact .inl ⟨j+1,k,ae,ae⟩
  ·obtain rfl:j=n:=ae;refine .inr ⟨_,Ex.of (n:=60) ?_,aC,rfl⟩;have l1:(v.map fun x=>(e x).d).length=j:=by simpa using hv
   rw[Qe0 ae,Qe0 ae];unfold Zn;generalize (v.map fun x=>(e x).d)=vd,(w.map fun x=>(e x).d)=wd at*;simp[doL,f1532,l1]) 0 ae
 subst h2;obtain⟨N,t⟩:=hz.get;rw[show t_ pl tm z (v.take 0) (w.take 0)=z from rfl]at h1;generalize t_ pl tm z v w=rr,(v.map fun x=>(e x).d)=vd,(w.map fun x=>(e x).d)=wd at*;have sA:Ex E1 f1532.body.l (st0 (.d (aV kk ps)::.d (.s 8 vd)::.d (.s 8 wd)::jP) []) (.norm,(st0 [.u,.d (.s 8 vd),.d (.s 8 wd),rL 0,rL 1,.u,.u,.u] [aI kk ps,wX0])):=by
  apply e6;unfold aV aI wX0;simp[f1532]
 have sB := nx sA f1532.body.r.l (st0 [.u,.d (.s 8 vd),.d (.s 8 wd),rL 0,rL 1,rL 2,.u,.u] [aI kk ps,wX0,wcX (e z)]) (by
  refine Ex.of (n:=N+60) ?_;clear h1 sA hc;obtain⟨vs,RH,RI,vc,vb,vu,vp,vq,ex⟩:=(e z).aP;unfold wcX wX0;rw[ex]at t ⊢;unfold aI aV wD at*;generalize LK .i64 ps=l9 at*;simp[f1532,t])
 have sC := nx sB f1532.body.r.r.l.l (Zn kk ps vd wd (e z) 0 .u) (by
  apply e6;unfold Zn;rw[show((0:Nat):Int)=0 from rfl];simp[f1532])
 have sD:∃ st',Ex E1 f1532.body.r.r.r (Zn kk ps vd wd (e rr) n (dB false)) (.ret,st')/\finish f1532 st'=some (.d (e rr).d,none):=by
  clear h1 sA sB sC hc t;obtain⟨vs,RH,RI,vc,vb,vu,vp,vq,ex⟩:=(e rr).aP;unfold Zn wcX wX0;rw[ex];unfold aI wD at*;refine⟨_,Ex.of (n:=60) (by simp[f1532];rfl),?_⟩;simp[finish,show f1532.res=[.cell 4 true 8] from rfl,show f1532.ref=false from rfl]
 obtain⟨st',e1,e2⟩:=sD;exact Ca.body (o:=.ret) rfl (aO 1532 f1532:E1.fn _=_) rfl (sA.seq (sB.seq (Ex.seq (sC.seq (Ex.block h1)) e1))) aC e2
def pnL:aG:=f1535.body.r.r.l.r.bl.lp
def pnS (es:List D)(j:Nat)(t:FV)(L:List ai):St:=(st0 [.u,.u,.u,.d (.s 11 es),dI j,t,.u] L)
theorem Yi (kk:Int)(ps:List Int)(sy st:Int)(aK fin es:List D)(l:List (Ar α))(hn:l.length<=100000)(h:Ca E1 1089 [.d (aV kk ps),.d (.s 11 es)] (.d (.s 11 (l.map (Ar.d e))),none))(h0:∀ a ∈ l,a.l≠0):Ca E1 1535 [.d (iD kk ps sy st aK fin es)] (dB true,none):=by
 obtain⟨N,t⟩:=h.get;obtain⟨bx,hbx⟩:∃ bx,bx=aX kk ps sy st aK fin es:=⟨_,rfl⟩
 have hel:(l.map (Ar.d e)).length=l.length:=aC;obtain⟨r,h1,h2⟩:=Ex.inv (E:=E1) (b:=pnL) (fun j:Nat=>pnS (l.map (Ar.d e)) j .u [bx]) (fun j=>l.length-j) (fun j=>j<=l.length) (fun r=>r=(.exit 0,pnS (l.map (Ar.d e)) l.length (dB false) [bx])) (fun j hj=>by
  rcases Qg0 j l.length with g|g
  ·have ga:l[j]?=some l[j]:=Qa1 g;have e1:(l.map (Ar.d e))[j]?=some (l[j].d e):=by simp[ga]
   have hl:=h0 _ (Qi2 g);generalize l[j]=a at*;have hl2:(a.l==0)=false:=by rw[beq_eq_false_iff_ne];exact hl
   have hj0:(0:Int)<=(j:Int):=ae;have hjl:(j:Int)<(l.length:Int):=ae;have aS:ak .i64 ((j:Int)+1)=(j:Int)+1:=wrap_i64 ae;have hk1:((j+1:Nat):Int)=(j:Int)+1:=ae;refine .inl ⟨j+1,Ex.of (n:=100) ?_,ae,ae⟩;obtain⟨s,l1,l3,c,b,u',q,ps',ew,ed⟩:=a.fH e;rw[ed]at e1;unfold pQ at e1;unfold pnS;rw[hk1];generalize l.map (Ar.d e)=xs at*;have i1:=idx e1;have q1:j<xs.length:=ae;simp[pnL,f1535,hj0,hjl,hel,aS,e1,i1,q1,hl,hl2]
  ·obtain rfl:j=l.length:=ae;refine .inr ⟨_,Ex.of (n:=60) ?_,aC,rfl⟩;unfold pnS;simp[pnL,f1535]) 0 ae
 subst h2;generalize l.map (Ar.d e)=xs at*;have sA:Ex E1 f1535.body.l (st0 (.d (iD kk ps sy st aK fin es)::rM) []) (.norm,(st0 (.u::rL 0::jP) [bx])):=by
  apply e6;rw[hbx];unfold iD aX;simp[f1535]
 have sB := nx sA f1535.body.r.l (st0 [.u,.u,.u,.d (.s 11 xs),.u,.u,.u] [bx]) (by
  refine Ex.of (n:=N+60) ?_;clear h1 sA;rw[hbx];unfold aX aV at*;simp[f1535,t])
 have sC := nx sB f1535.body.r.r.l.l (pnS xs 0 .u [bx]) (by
  apply e6;unfold pnS;rw[show((0:Nat):Int)=0 from rfl];simp[f1535])
 have sD:∃ st',Ex E1 f1535.body.r.r.r (pnS xs l.length (dB false) [bx]) (.ret,st')/\finish f1535 st'=some (dB true,none):=by
  refine⟨_,Ex.of (n:=60) (by unfold pnS;simp[f1535];rfl),?_⟩;simp[finish,show f1535.res=[.var 2] from rfl,show f1535.ref=false from rfl]
 obtain⟨st',e1,e2⟩:=sD;exact Ca.body (o:=.ret) rfl (aO 1535 f1535:E1.fn _=_) rfl (sA.seq (sB.seq (Ex.seq (sC.seq (Ex.block h1)) e1))) aC e2
end Fi.S
noncomputable section
namespace Fi.S
open Go Fi
set_option maxHeartbeats 8000000
set_option maxRecDepth 10000
variable {α:Type} {e:α->W}
def afL:aG:=f1536.body.r.r.l.r.bl.lp
def Lr (w:List D)(sy:Int)(j:Nat)(t:FV):St:=(st0 [.d (.s 1 w),dI sy,.u,dI j,.u,t,.u] [])
theorem Yj (w:List Int)(sy:Int)(h1:1<=sy/\sy<=32)(hl:w.length<=256)(hw:∀ x ∈ w,1<=x/\x<=sy):Ca E1 1536 [.d (.s 1 (LK .i64 w)),dI sy] (dB true,none):=by
 have hel:(LK .i64 w).length=w.length:=by simp[LK]
 obtain⟨r,h2,h3⟩:=Ex.inv (E:=E1) (b:=afL) (fun j:Nat=>Lr (LK .i64 w) sy j .u) (fun j=>w.length-j) (fun j=>j<=w.length) (fun r=>r=(.exit 0,Lr (LK .i64 w) sy w.length (dB false))) (fun j hj=>by
  rcases Qg0 j w.length with g|g
  ·have ga:w[j]?=some w[j]:=Qa1 g;have e1:(LK .i64 w)[j]?=some (vI w[j]):=by simp[LK,ga]
   obtain⟨x1,x2⟩:=hw _ (Qi2 g);generalize w[j]=x at*;have hj0:(0:Int)<=(j:Int):=ae;have hjl:(j:Int)<(w.length:Int):=ae;have aS:ak .i64 ((j:Int)+1)=(j:Int)+1:=wrap_i64 ae;have hk1:((j+1:Nat):Int)=(j:Int)+1:=ae;have y1:¬ x<1:=ae;have y2:¬ sy<x:=ae;refine .inl ⟨j+1,Ex.of (n:=100) ?_,ae,ae⟩;unfold Lr;rw[hk1];generalize LK .i64 w=xs at*;have i1:=idx e1;have q1:j<xs.length:=ae;simp[afL,f1536,hj0,hjl,hel,aS,e1,i1,q1,y1,y2,x1,x2]
  ·obtain rfl:j=w.length:=ae;refine .inr ⟨_,Ex.of (n:=60) ?_,aC,rfl⟩;unfold Lr;generalize LK .i64 w=xs at*;simp[afL,f1536,hel]) 0 ae
 subst h3;have t:=fun m=>yh m sy
 have hb:Bl sy 1 32=true:=by unfold Bl;simp;omega
 rw[hb]at t;have hl2:¬ (256:Int)<(w.length:Int):=ae;have hl3:w.length<=256:=hl;generalize LK .i64 w=xs at*;have sA:Ex E1 f1536.body.l (st0 (.d (.s 1 xs)::dI sy::jP) []) (.norm,(st0 (.d (.s 1 xs)::dI sy::jP) [])):=by
  apply e6;simp[f1536]
 obtain⟨K,tK⟩:∃ K,∀ m,CL E1 (K+m) 1040 [dI sy] []=some (dB true,none):=⟨100,fun m=>by rw[show 100+m=m+100 by omega];exact t m⟩
 have sB := nx sA f1536.body.r.l (st0 [.d (.s 1 xs),dI sy,.u,.u,dB false,.u,.u] []) (by
  refine Ex.of (n:=K+60) ?_;clear h2 t;simp[f1536,tK,hel,hl2,hl3])
 have sC := nx sB f1536.body.r.r.l.l (Lr xs sy 0 .u) (by
  apply e6;unfold Lr;rw[show((0:Nat):Int)=0 from rfl];simp[f1536])
 have sD:∃ st',Ex E1 f1536.body.r.r.r (Lr xs sy w.length (dB false)) (.ret,st')/\finish f1536 st'=some (dB true,none):=by
  refine⟨_,Ex.of (n:=60) (by unfold Lr;simp[f1536];rfl),?_⟩;simp[finish,show f1536.res=[.var 2] from rfl,show f1536.ref=false from rfl]
 obtain⟨st',e1,e2⟩:=sD;exact Ca.body (o:=.ret) rfl (aO 1536 f1536:E1.fn _=_) rfl (sA.seq (sB.seq (Ex.seq (sC.seq (Ex.block h2)) e1))) aC e2
theorem SQ (kk:Int)(ps:List Int)(sy st:Int)(aK fin es:List D)(w:List D)(h1:Ca E1 1020 [.d (iD kk ps sy st aK fin es)] (dB true,none))(h2:Ca E1 1535 [.d (iD kk ps sy st aK fin es)] (dB true,none))(h3:Ca E1 1536 [.d (.s 1 w),dI sy] (dB true,none)) :
  Ca E1 1533 [.d (iD kk ps sy st aK fin es),.d (.s 1 w)] (dI 0,none):=by
 obtain⟨K,hK,t1,t2,t3⟩:=(h1.j (h2.j h3.any)).at 0;refine Ca.bQ (n:=K+200) ?_;rw[aB rfl (aO 1533 f1533:E1.fn _=_) rfl];clear h1 h2 h3;unfold iD at*;simp[f1533,t1,t2,t3]
def jD (mZ:Int->List α->List α)(v:List α)(w:List Int):List α:=w.foldl (fun v s=>mZ s v) v
theorem Eu {mZ:Int->List α->List α}{n:Nat}(h:∀ s v,(mZ s v).length=n){v:List α}(hv:v.length=n):∀ w:List Int,(jD mZ v w).length=n:=by
 intro w;unfold jD
 induction w generalizing v with
 | nil=>exact hv
 | cons x r ih=>exact ih (h x v)
def fwL:aG:=f1531.body.r.r.r.l.r.bl.lp
def fwS (A:ai)(w v:List D)(j:Nat)(t:FV):St:=(st0 [.u,.d (.s 1 w),rL 0,.u,.u,.u,.d (.s 8 v),dI j,.u,t] [A])
theorem Ox (kk:Int)(ps:List Int)(sy st:Int)(aK:List α)(fin es:List D)(es2:List D)(yj:List D)(w:List Int)(hw:w.length<=1000)(mZ:Int->List α->List α)(h1:Ca E1 1533 [.d (iD kk ps sy st (aK.map fun x=>(e x).d) fin es),.d (.s 1 (LK .i64 w))] (dI 0,none))
  (h2:Ca E1 1044 [.d (iD kk ps sy st (aK.map fun x=>(e x).d) fin es)] (.d (iD kk ps sy st (aK.map fun x=>(e x).d) yj es2),none))
  (hc:∀ (j:Nat) (s:Int),w[j]?=some s->Ca E1 1534 [.d (iD kk ps sy st (aK.map fun x=>(e x).d) fin es),.d (.s 8 ((jD mZ aK (w.take j)).map fun x=>(e x).d)),dI s] (.d (.s 8 ((mZ s (jD mZ aK (w.take j))).map fun x=>(e x).d)),none)) :
  Ca E1 1531 [.d (iD kk ps sy st (aK.map fun x=>(e x).d) fin es),.d (.s 1 (LK .i64 w))] (.d (.t [.s 8 ((jD mZ aK w).map fun x=>(e x).d),vI 0]),none):=by
 obtain⟨bx,hbx⟩:∃ bx,bx=aX kk ps sy st (aK.map fun x=>(e x).d) fin es:=⟨_,rfl⟩
 have hel:(LK .i64 w).length=w.length:=by simp[LK]
 obtain⟨r,g1,g2⟩:=Ex.inv (E:=E1) (b:=fwL) (fun j:Nat=>fwS bx (LK .i64 w) ((jD mZ aK (w.take j)).map fun x=>(e x).d) j .u) (fun j=>w.length-j) (fun j=>j<=w.length) (fun r=>r=(.exit 0,fwS bx (LK .i64 w) ((jD mZ aK w).map fun x=>(e x).d) w.length (dB false))) (fun j hj=>by
  rcases Qg0 j w.length with g|g
  ·have ga:w[j]?=some w[j]:=Qa1 g;have e1:(LK .i64 w)[j]?=some (vI w[j]):=by simp[LK,ga]
   obtain⟨N,t⟩:=(hc j _ ga).get;have hs:jD mZ aK (w.take (j+1))=mZ w[j] (jD mZ aK (w.take j)):=by
    unfold jD;rw[Qi1 g,Xl2];rfl
   rw[<-hs]at t;generalize w[j]=x at*;have hj0:(0:Int)<=(j:Int):=ae;have hjl:(j:Int)<(w.length:Int):=ae;have aS:ak .i64 ((j:Int)+1)=(j:Int)+1:=wrap_i64 ae;have hk1:((j+1:Nat):Int)=(j:Int)+1:=ae;refine .inl ⟨j+1,Ex.of (n:=N+100) ?_,ae,ae⟩;unfold fwS;rw[hk1,hbx];clear hs h1 h2 hc;generalize (jD mZ aK (w.take (j+1))).map (fun x=>(e x).d)=v2 at*;generalize (jD mZ aK (w.take j)).map (fun x=>(e x).d)=v1 at*;generalize (aK.map fun x=>(e x).d)=is,LK .i64 w=xs at*;have i1:=idx e1;have q1:j<xs.length:=ae;unfold iD aX at*;generalize LK .i64 ps=l9 at*;simp[fwL,f1531,hj0,hjl,hel,aS,e1,i1,q1,t]
  ·obtain rfl:j=w.length:=ae;refine .inr ⟨_,Ex.of (n:=60) ?_,aC,rfl⟩;rw[Qj1];unfold fwS;generalize LK .i64 w=xs at*;simp[fwL,f1531,hel]) 0 ae
 subst g2;rw[show jD mZ aK (w.take 0)=aK from rfl]at g1;generalize (jD mZ aK w).map (fun x=>(e x).d)=vr at*;clear hc;obtain⟨K,hK,t1,t2⟩:=(h1.j h2.any).at 0;generalize (aK.map fun x=>(e x).d)=is,LK .i64 w=xs at*;have sA:Ex E1 f1531.body.l (st0 (.d (iD kk ps sy st is fin es)::.d (.s 1 xs)::xh) []) (.norm,(st0 (.u::.d (.s 1 xs)::rL 0::qi) [bx])):=by
  apply e6;rw[hbx];unfold iD aX;simp[f1531]
 have sB := nx sA f1531.body.r.l (st0 [.u,.d (.s 1 xs),rL 0,.u,.u,dI 0,.u,.u,dB false,.u] [bx]) (by
  refine Ex.of (n:=K+60) ?_;clear g1 sA h1 h2 t2;rw[hbx];unfold iD aX at*;generalize LK .i64 ps=l9 at*;simp[f1531,t1])
 have sC := nx sB f1531.body.r.r.l (st0 [.u,.d (.s 1 xs),rL 0,.u,.u,.u,.d (.s 8 is),.u,.u,.u] [bx]) (by
  refine Ex.of (n:=K+60) ?_;clear g1 sA sB h1 h2 t1;rw[hbx];unfold iD aX at*;simp[f1531,t2])
 have sD := nx sC f1531.body.r.r.r.l.l (fwS bx xs is 0 .u) (by
  apply e6;unfold fwS;rw[show((0:Nat):Int)=0 from rfl];simp[f1531])
 have sE:∃ st',Ex E1 f1531.body.r.r.r.r (fwS bx xs vr w.length (dB false)) (.ret,st')/\finish f1531 st'=some (.d (.t [.s 8 vr,vI 0]),none):=by
  refine⟨_,Ex.of (n:=60) (by unfold fwS;simp[f1531];rfl),?_⟩;simp[finish,show f1531.res=[.var 3,.var 4] from rfl,show f1531.ref=false from rfl,o8]
 obtain⟨st',e1,e2⟩:=sE;exact Ca.body (o:=.ret) rfl (aO 1531 f1531:E1.fn _=_) rfl (sA.seq (sB.seq (sC.seq (Ex.seq (sD.seq (Ex.block g1)) e1)))) aC e2
theorem Oy (kk:Int)(ps:List Int)(sy st:Int)(aK fin es:List D)(w v:List D)(q:W)(h1:Ca E1 1531 [.d (iD kk ps sy st aK fin es),.d (.s 1 w)] (.d (.t [.s 8 v,vI 0]),none))(h2:Ca E1 1532 [.d (aV kk ps),.d (.s 8 v),.d (.s 8 fin)] (.d q.d,none)) :
  Ca E1 1530 [.d (iD kk ps sy st aK fin es),.d (.s 1 w)] (.d (.t [q.d,vI 0]),none):=by
 obtain⟨K,hK,t1,t2⟩:=(h1.j h2.any).at 0;obtain⟨vs,RH,RI,vc,vb,vu,vp,vq,ex⟩:=q.aP;rw[ex]at t2 ⊢;refine Ca.bQ (n:=K+200) ?_;rw[aB rfl (aO 1530 f1530:E1.fn _=_) rfl];clear h1 h2;unfold iD aV wD at*;simp[f1530,t1,t2,o8]
end Fi.S
