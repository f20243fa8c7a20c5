import Derived.Test.YtkekcmgkpdkieaaGreatDoorCS2
set_option linter.unusedVariables false
set_option linter.unusedSimpArgs false
noncomputable section
namespace Fi.S
open Go Fi
set_option maxHeartbeats 8000000
set_option maxRecDepth 10000
section
variable {α:Type} {e:α->W}
def K5:aF:=f1074.body.r.r.l.r.bl.lp
def Dn (e:α->W)(l1 l2:List (Ar α))(g k:Nat)(bs:List ai)(t:FV):St:=(st0 [.u,.d (.s 11 (l2.map (Ar.d e))),.d (.fn g),.u,.u,.u,.u,.u,.d (.s 11 (l1.map (Ar.d e))),dI l1.length,dI k,t,.u] bs)
def Uh (bs:List ai):St:=(st0 (.u::.u::.u::dB false::CK) bs)
theorem O7 (l1 l2:List (Ar α))(g k:Nat)(bs:List ai)(x y:Ar α)(v:Bool)(h1:l1.length<=1000000)(hx:l1[k]?=some x)(hy:l2[k]?=some y)(hc:Ca E1 g [.d (x.d e),.d (y.d e)] (dB v,none)) :
  ∃ bs',Ex E1 K5 (Dn e l1 l2 g k bs .u) (if v then(.norm,Dn e l1 l2 g (k+1) bs' .u) else(.ret,Uh bs')):=by
 have hkl:k<l1.length:=(aS hx)
 have mP:k<l2.length:=(aS hy)
 obtain⟨N,hf⟩:=hc.get;have e1:(l1.map (Ar.d e))[k]?=some (x.d e):=by simp[hx]
 have e2:(l2.map (Ar.d e))[k]?=some (y.d e):=by simp[hy]
 have n1:(l1.map (Ar.d e)).length=l1.length:=aC;have n2:(l2.map (Ar.d e)).length=l2.length:=aC;have aP:av .i64 ((k:Int)+1)=(k:Int)+1:=wrap_i64 ae;have hk1:((k+1:Nat):Int)=(k:Int)+1:=ae;have hk0:(0:Int)<=(k:Int):=ae;obtain⟨B,hB⟩:∃ B,bs.length=B:=⟨_,rfl⟩
 have hg:=fun(o:ai)=>mW (o:=o) hB
 have hs:=fun(o o':ai)=>mX (o:=o) (o':=o') hB
 have hg2:=fun(o o2:ai)=>mW (bs:=bs++[o]) (o:=o2) (k:=B+1) (by simp[hB])
 have hs2:=fun(o o2 o':ai)=>mX (bs:=bs++[o]) (o:=o2) (o':=o') (k:=B+1) (by simp[hB])
 have hg3:∀ (o o2:ai),(bs++[o]++[o2])[B]?=some o:=fun o o2=>by rw[Qk2,Qb1 ae,hB];simp
 simp only[Qk2,Q30,Qn0]at hg2 hs2 hg3;refine⟨bs++[.box ((x.d e).cells.map .d)]++[.box ((y.d e).cells.map .d)],Ex.of (n:=N+300) ?_⟩;unfold Dn Uh;rw[hk1];obtain⟨sx,lx1,lx2,cx,bx,ux,qx,DW,_,ex⟩:=x.dP e;obtain⟨sy,ly1,ly2,cy,by2,uy,qy,psy,_,ey⟩:=y.dP e;rw[ex]at e1 hf ⊢;rw[ey]at e2 hf ⊢;unfold mM at*;simp only[D.cells,Qe1,Qc2];generalize List.map (Ar.d e) l1=es1,List.map (Ar.d e) l2=es2 at*;have i1:=idx e1;have i2:=idx e2;cases v
 ·simp[K5,f1074,hkl,mP,hk0,e1,e2,i1,i2,n1,n2,hB,hg,hs,hg2,hs2,hg3,hf]
 ·simp[K5,f1074,hkl,mP,hk0,e1,e2,i1,i2,n1,n2,hB,hg,hs,hg2,hs2,hg3,hf,aP]
theorem Ui (eq:Ar α->Ar α->Bool)(l1 l2:List (Ar α))(g:Nat)(h1:l1.length<=1000000)(hl:l1.length=l2.length)(hc:∀ x ∈ l1,∀ y ∈ l2,Ca E1 g [.d (x.d e),.d (y.d e)] (dB (eq x y),none)) :
  ∃ r,Ex E1 (.loop K5) (Dn e l1 l2 g 0 [] .u) r/\((iD eq l1 l2=true/\∃ bs,r=(.exit 0,Dn e l1 l2 g l1.length bs (dB false)))\/(iD eq l1 l2=false/\∃ bs,r=(.ret,Uh bs))):=by
 refine Ex.inv (S:=fun t:Nat × List ai=>Dn e l1 l2 g t.1 t.2 .u) (fun t=>l1.length-t.1) (fun t=>t.1<=l1.length/\iD eq l1 l2=iD eq (l1.drop t.1) (l2.drop t.1)) _ ?_ (0,[]) ⟨aC,aC⟩;rintro⟨k,bs⟩ ⟨q1,q2⟩;simp only at q1 q2
 by_cases hk:k<l1.length
 ·have hx:l1[k]?=some (l1[k]'hk):=Qa1 hk;have hy:l2[k]?=some (l2[k]'(by omega)):=Qa1 ae;have d1:l1.drop k=l1[k]'hk::l1.drop (k+1):=Qi2 hk;have d2:l2.drop k=l2[k]'(by omega)::l2.drop (k+1):=Qi2 ae;obtain⟨bs',hr⟩:=O7 l1 l2 g k bs _ _ _ h1 hx hy (hc _ (Qj1 hk) _ (Qj1 ae));rw[d1,d2]at q2;simp only[iD]at q2;cases hv:eq (l1[k]'hk) (l2[k]'(by omega))
  ·rw[hv]at hr q2;exact .inr ⟨_,hr,aC,.inr ⟨by simpa using q2,bs',rfl⟩⟩
  ·rw[hv]at hr q2;exact .inl ⟨(k+1,bs'),hr,by simp only;omega,by simp only;omega,by simpa using q2⟩
 ·have he:k=l1.length:=ae;subst he;rw[Qp2,hl,Qp2]at q2;refine .inr ⟨_,Ex.of (n:=60) ?_,?_,.inl ⟨by rw[q2];rfl,bs,rfl⟩⟩
  ·unfold Dn;generalize List.map (Ar.d e) l1=es1,List.map (Ar.d e) l2=es2,l1.length=m at*;simp[K5,f1074]
  ·simp
theorem ack (eq:Ar α->Ar α->Bool)(l1 l2:List (Ar α))(g:Nat)(h1:l1.length<=1000000)(h2:l2.length<=1000000)(hc:∀ x ∈ l1,∀ y ∈ l2,Ca E1 g [.d (x.d e),.d (y.d e)] (dB (eq x y),none)) :
  Ca E1 1074 [.d (.s 11 (l1.map (Ar.d e))),.d (.s 11 (l2.map (Ar.d e))),.d (.fn g)] (dB (iD eq l1 l2),none):=by
 have n1:(l1.map (Ar.d e)).length=l1.length:=aC;have n2:(l2.map (Ar.d e)).length=l2.length:=aC;have hA:Ex E1 f1074.body.l (st0 (.d (.s 11 (l1.map (Ar.d e)))::.d (.s 11 (l2.map (Ar.d e)))::.d (.fn g)::oD) []) (.norm,(st0 (.d (.s 11 (l1.map (Ar.d e)))::.d (.s 11 (l2.map (Ar.d e)))::.d (.fn g)::oD) [])):=by
  refine Ex.of (n:=40) ?_;generalize List.map (Ar.d e) l1=es1,List.map (Ar.d e) l2=es2 at*;simp[f1074]
 by_cases hl:l1.length=l2.length
 ·obtain⟨r,hr,h⟩:=Ui eq l1 l2 g h1 hl hc;have hB := nx hA f1074.body.r.l (st0 (.d (.s 11 (l1.map (Ar.d e)))::.d (.s 11 (l2.map (Ar.d e)))::.d (.fn g)::.u::.u::.u::.u::dB false::iO) []) (by
   refine Ex.of (n:=40) ?_;generalize List.map (Ar.d e) l1=es1,List.map (Ar.d e) l2=es2 at*;simp[f1074,n1,n2,hl])
  have hC := nx hB f1074.body.r.r.l.l (Dn e l1 l2 g 0 [] .u) (by
   refine Ex.of (n:=40) ?_;unfold Dn;generalize List.map (Ar.d e) l1=es1,List.map (Ar.d e) l2=es2 at*;simp[f1074,n1])
  rcases h with ⟨hv,bs,rfl⟩|⟨hv,bs,rfl⟩
  ·rw[hv];refine Ca.body (o:=.ret) (st1:=(st0 (.u::.u::.u::dB true::CK) bs)) rfl (k1074:E1.fn _=_) rfl ?_ (by intro id h;cases h) ?_
   ·show Ex E1 (.seq f1074.body.l (.seq f1074.body.r.l (.seq (.seq f1074.body.r.r.l.l (.block 0 (.loop K5))) f1074.body.r.r.r))) _ _;refine hA.seq (hB.seq ((hC.seq hr.block).seq (Ex.of (n:=40) ?_)));unfold Dn;generalize List.map (Ar.d e) l1=es1,List.map (Ar.d e) l2=es2 at*;simp[f1074]
   ·simp[f1074]
  ·rw[hv];refine Ca.body (o:=.ret) (st1:=Uh bs) rfl (k1074:E1.fn _=_) rfl ?_ (by intro id h;cases h) ?_
   ·show Ex E1 (.seq f1074.body.l (.seq f1074.body.r.l (.seq (.seq f1074.body.r.r.l.l (.block 0 (.loop K5))) f1074.body.r.r.r))) _ _;exact hA.seq (hB.seq (hC.seq hr.bG).bN)
   ·simp[f1074,Uh]
 ·have hf:iD eq l1 l2=false:=by
   cases h:iD eq l1 l2
   ·rfl
   ·exact absurd (jN h) hl
  have hne:((l1.length:Int) != (l2.length:Int))=true:=by simp;omega
  rw[hf];refine Ca.bO (n:=60) ?_;rw[aB rfl (k1074:E1.fn _=_) rfl];generalize List.map (Ar.d e) l1=es1,List.map (Ar.d e) l2=es2 at*;simp[f1074,n1,n2,hne]
theorem zO {β:Type}(eq:β->β->Bool):∀ l m:List β,iD eq l m=(decide ((l.length:Int)=m.length)&&(l.zip m).all fun p=>eq p.1 p.2)
 | [],[]=>rfl
 | [],y::m=>by simp[iD];omega
 | x::l,[]=>by simp[iD];omega
 | x::l,y::m=>by
  rw[iD,zO eq l m];have:decide (((x::l).length:Int)=(y::m).length)=decide ((l.length:Int)=m.length):=by
   rw[decide_eq_decide];simp
  rw[this,List.zip_cons_cons,Xy2];cases eq x y<;>simp
def Yu (e:α->W)(x y:Ar α):Bool:=decide (iG x y=0)&&(e x.x).eq (e y.x)
theorem Yv (x y:Ar α)(hx:(e x.x).OK)(hy:(e y.x).OK):Ca E1 1069 [.d (x.d e),.d (y.d e)] (dB (Yu e x y),none):=by
 obtain⟨K,hK,t1,t2⟩:=((Ca.jg (Ca.bO (vW e 0 x y))).j ((Ca.jg (jl _ hx _ hy)).any)).at 0;unfold Yu;generalize (e x.x).eq (e y.x)=b,iG x y=o at*;obtain⟨s,l1,l2,c,b',u,q,ps,ew,ed⟩:=x.dP e;obtain⟨s',Tw,Tx,c',b'',u',q',ps',ew',Uj⟩:=y.dP e;simp only[ed,Uj]at t1 ⊢;simp only[ew,ew']at t2;clear ew ew' ed Uj hx hy hK;unfold mM wD at*;refine Ca.bO (n:=K+100) ?_;rw[aB rfl (aN 1069 f1069:E1.fn _=_) rfl]
 by_cases ho:o=0
 ·subst ho;simp[f1069,t1,t2]
 ·have h2:(o==0)=false:=by simpa using ho
  simp[f1069,t1,t2,ho,h2]
theorem K6 (kk:Int)(ps:List Int)(sy st:Int)(aJ fin:List W)(ak:List (Ar α))(Dl:Int)(ps':List Int)(BH st':Int)(jq fin':List W)(dz:List (Ar α))(hl:ps.length<=1000000)(hl':ps'.length<=1000000)
  (h1:aJ.length<=1000000) (h2:fin.length<=1000000) (h3:ak.length<=1000000) (h1':jq.length<=1000000) (h2':fin'.length<=1000000) (h3':dz.length<=1000000) (o1:∀ w ∈ aJ,w.OK) (o2:∀ w ∈ fin,w.OK) (o3:∀ a ∈ ak,(e a.x).OK) (OY:∀ w ∈ jq,w.OK) (OZ:∀ w ∈ fin',w.OK) (o3':∀ a ∈ dz,(e a.x).OK) :
  Ca E1 1027 [.d (mR kk ps sy st aJ fin e ak),.d (mR Dl ps' BH st' jq fin' e dz)] (dB (o_ kk ps sy st aJ fin ak Dl ps' BH st' jq fin' dz e),none):=by
 obtain⟨K,hK,t1,t2,t3,t4⟩:=((Ca.jg (RH kk Dl ps ps' ae ae)).j ((Ca.jg (Ki W.eq aJ jq 34 h1 h1' (fun x hx y hy=>jl x (o1 x hx) y (OY y hy)))).j ((Ca.jg (Ki W.eq fin fin' 34 h2 h2' (fun x hx y hy=>jl x (o2 x hx) y (OZ y hy)))).j ((ack (e:=e) (Yu e) ak dz 1069 h3 h3' (fun x hx y hy=>Yv x y (o3 x hx) (o3' y hy))).any)))).at 0;have e2:iD W.eq aJ jq=dQ aJ jq:=zO _ _ _;have e3:iD W.eq fin fin'=dQ fin fin':=zO _ _ _;have e4:iD (Yu e) ak dz=Ej e ak dz:=zO _ _ _;rw[e2]at t2;rw[e3]at t3;rw[e4]at t4;unfold o_;clear o1 o2 o3 OY OZ o3' e2 e3 e4 h1 h2 h3 h1' h2' h3' hl hl' hK;generalize fe kk ps Dl ps'=b1,dQ aJ jq=b2,dQ fin fin'=b3,Ej e ak dz=b4 at*;unfold mR gI bD at*;generalize aJ.map W.d=es1,fin.map W.d=es2,ak.map (Ar.d e)=Yb,jq.map W.d=ae7,fin'.map W.d=ae8,dz.map (Ar.d e)=ab2 at*;refine Ca.bO (n:=K+200) ?_;rw[aB rfl (aN 1027 f1027:E1.fn _=_) rfl];cases b1
 ·simp[f1027,t1]
 by_cases c1:sy=BH
 rotate_left
 ·have c1':(sy==BH)=false:=by simpa using c1
  simp[f1027,t1,c1,c1']
 subst c1
 by_cases c2:st=st'
 rotate_left
 ·have c2':(st==st')=false:=by simpa using c2
  simp[f1027,t1,c2,c2']
 subst c2;cases b2
 ·simp[f1027,t1,t2]
 cases b3
 ·simp[f1027,t1,t2,t3]
 cases b4<;>simp[f1027,t1,t2,t3,t4]
end
section
variable {α:Type} {e:α->W}
def uG (n:Int)(ws:List W):Bool:=decide ((ws.length:Int)<=n)&&ws.all W.bM
def llL:aF:=f1061.body.r.r.l.r.bl.lp
def ZX (es:List D)(j:Nat)(t:FV):St:=(st0 [.d (.s 8 es),.u,.u,dI j,.u,t,.u] [])
theorem En (ws:List W)(n:Int)(hn0:n<=1000000):Ca E1 1061 [.d (.s 8 (ws.map W.d)),dI n] (dB (uG n ws),none):=by
 have n1:(ws.map W.d).length=ws.length:=aC;unfold uG
 by_cases hlen:(ws.length:Int)<=n
 ·have hgt:¬ n<(ws.length:Int):=ae;have hn:ws.length<=1000000:=ae;rw[decide_eq_true hlen,Ql0];have hloop:=Ex.vU (E:=E1) (b:=llL) ws W.bM (fun j=>ZX (ws.map W.d) j .u) (.exit 0,ZX (ws.map W.d) ws.length (dB false))
   (.ret,(st0 (.u::.u::dB false::mO) [])) aC aC
   (fun j x hx=>by
    have hj:j<ws.length:=(aS hx)
    obtain⟨N,t⟩:=(Ca.jg (AY x)).get;have hj0:(0:Int)<=(j:Int):=ae;have aP:av .i64 ((j:Int)+1)=(j:Int)+1:=wrap_i64 ae;have hk1:((j+1:Nat):Int)=(j:Int)+1:=ae;have e1:(ws.map W.d)[j]?=some x.d:=by simp[hx]
    obtain⟨s,l1,l2,c,b,u,q,ps,ex⟩:=x.bq;simp only[ex]at t e1;unfold wD at*;generalize ws.map W.d=es at*;have i0:=idx e1;have dw:j<es.length:=(aS e1)
    have hjl:(j:Int)<(es.length:Int):=ae;generalize x.bM=r at*;refine Ex.of (n:=N+100) ?_;unfold ZX;cases r
    ·rw[if_neg aC];simp[llL,f1061,t,hj0,dw,hjl,e1,i0]
    ·rw[if_pos rfl,hk1];simp[llL,f1061,t,hj0,dw,hjl,e1,i0,aP])
   (by
    apply e6;unfold ZX;rw[<-n1];generalize ws.map W.d=es at*;simp[llL,f1061])
  have sA:Ex E1 f1061.body.l (st0 (.d (.s 8 (ws.map W.d))::dI n::iO) []) (.norm,(st0 (.d (.s 8 (ws.map W.d))::dI n::iO) [])):=by
   apply e6;simp[f1061]
  have sB := nx sA f1061.body.r.l (st0 [.d (.s 8 (ws.map W.d)),.u,.u,.u,dB false,.u,.u] []) (by
   apply e6;rw[<-n1]at hgt;clear hloop;generalize ws.map W.d=es at*;simp[f1061,hgt])
  have sC := nx sB f1061.body.r.r.l.l (ZX (ws.map W.d) 0 .u) (by
   apply e6;unfold ZX;simp[f1061])
  cases hr:ws.all W.bM with
  | true =>
   rw[hr,if_pos rfl]at hloop;have sD:Ex E1 f1061.body.r.r.r (ZX (ws.map W.d) ws.length (dB false)) (.ret,(st0 (.u::.u::dB true::mO) [])):=by
    apply e6;unfold ZX;simp[f1061]
   refine Ca.body (o:=.ret) rfl (k1061:E1.fn _=_) rfl (sA.seq (sB.seq (Ex.seq (sC.seq (Ex.block hloop)) sD))) aC ?_;simp[show f1061.res=[.var 2] from rfl,show f1061.ref=false from rfl]
  | false =>
   rw[hr,if_neg aC]at hloop;refine Ca.body (o:=.ret) rfl (k1061:E1.fn _=_) rfl (sA.seq (sB.seq (Ex.bN (sC.seq (Ex.bG hloop))))) aC ?_;simp[show f1061.res=[.var 2] from rfl,show f1061.ref=false from rfl]
 ·have hgt:n<(ws.length:Int):=ae;rw[decide_eq_false hlen,Qs1];refine Ca.bO (n:=100) ?_;rw[aB rfl (k1061:E1.fn _=_) rfl];rw[<-n1]at hgt;generalize ws.map W.d=es at*;simp[f1061,hgt]
def xS (ps:List Int)(aJ fin:List W)(n:Nat):Bool:=decide ((ps.length:Int)<=6)&&(uG 6 aJ&&(uG 6 fin&&decide ((n:Int)<=16)))
def wE (ps:List Int)(aJ fin:List W)(e:α->W)(ak:List (Ar α)):Bool:=xS ps aJ fin ak.length&&ak.all fun a=>(e a.x).bM
def laL:aF:=f1023.body.r.r.l.r.bl.lp
def ZY (b1:ai)(j:Nat)(t:FV):St:=(st0 [.u,rL 0,.u,dI j,.u,t,.u] [b1])
theorem IL (kk:Int)(ps:List Int)(sy st:Int)(aJ fin:List W)(ak:List (Ar α)) :
  Ca E1 1023 [.d (mR kk ps sy st aJ fin e ak)] (dB (wE ps aJ fin e ak),none):=by
 obtain⟨K,hK,t1,t2,t3⟩:=((Ca.jg (Ca.bO (Dh 0 kk ps))).j ((En aJ 6 ae).j ((En fin 6 ae).any))).at 0;have n3:(ak.map (Ar.d e)).length=ak.length:=aC;have sA:Ex E1 f1023.body.l (st0 (.d (mR kk ps sy st aJ fin e ak)::qm) [])
   (.norm,(st0 (.u::rL 0::iO) [aO kk ps sy st (aJ.map W.d) (fin.map W.d) (ak.map (Ar.d e))])):=by
  apply e6;unfold mR gI aO;simp[f1023]
 have sB:Ex E1 f1023.body.r.l (st0 (.u::rL 0::iO) [aO kk ps sy st (aJ.map W.d) (fin.map W.d) (ak.map (Ar.d e))])
   (if xS ps aJ fin ak.length
    then(.norm,(st0 [.u,rL 0,.u,.u,dB false,.u,.u] [aO kk ps sy st (aJ.map W.d) (fin.map W.d) (ak.map (Ar.d e))]))
    else(.ret,(st0 (.u::.u::dB false::mO) [aO kk ps sy st (aJ.map W.d) (fin.map W.d) (ak.map (Ar.d e))]))):=by
  refine Ex.of (n:=K+200) ?_;unfold xS;clear sA;generalize decide ((ps.length:Int)<=6)=b1 at*;generalize uG 6 aJ=b2,uG 6 fin=b3,ak.length=m3 at*;unfold aO bD at*;generalize LK .i64 ps=l9,aJ.map W.d=es1,fin.map W.d=es2,ak.map (Ar.d e)=Yb at*;cases b1
  ·simp[f1023,t1]
  cases b2
  ·simp[f1023,t1,t2]
  cases b3
  ·simp[f1023,t1,t2,t3]
  by_cases c3:(m3:Int)<=16
  ·have c3':¬ 16<(m3:Int):=ae;rw[decide_eq_true c3];clear c3;simp[f1023,t1,t2,t3,c3',n3]
  ·have c3':16<(m3:Int):=ae;rw[decide_eq_false c3];clear c3;simp[f1023,t1,t2,t3,c3',n3]
 unfold wE;cases hH:xS ps aJ fin ak.length with
 | false =>
  rw[hH,if_neg aC]at sB;rw[Qs1];refine Ca.body (o:=.ret) rfl (k1023:E1.fn _=_) rfl (sA.seq (Ex.bN sB)) aC ?_;simp[show f1023.res=[.var 2] from rfl,show f1023.ref=false from rfl]
 | true =>
  rw[hH,if_pos rfl]at sB;rw[Ql0];have h3:ak.length<=1000000:=by
   unfold xS at hH;simp only[Qa2,decide_eq_true_eq]at hH;omega
  have hloop:=Ex.vU (E:=E1) (b:=laL) ak (fun a=>(e a.x).bM) (fun j=>ZY (aO kk ps sy st (aJ.map W.d) (fin.map W.d) (ak.map (Ar.d e))) j .u) (.exit 0,ZY (aO kk ps sy st (aJ.map W.d) (fin.map W.d) (ak.map (Ar.d e))) ak.length (dB false))
   (.ret,(st0 (.u::.u::dB false::mO) [aO kk ps sy st (aJ.map W.d) (fin.map W.d) (ak.map (Ar.d e))])) aC aC
   (fun j x hx=>by
    have hj:j<ak.length:=(aS hx)
    obtain⟨N,t⟩:=(Ca.jg (AY (e x.x))).get;have hj0:(0:Int)<=(j:Int):=ae;have aP:av .i64 ((j:Int)+1)=(j:Int)+1:=wrap_i64 ae;have hk1:((j+1:Nat):Int)=(j:Int)+1:=ae;have e1:(ak.map (Ar.d e))[j]?=some (x.d e):=by simp[hx]
    obtain⟨s,l1,l2,c,b,u,q,ps',ex,ed⟩:=x.dP e;rw[ed]at e1;simp only[ex]at t;clear sA sB t1 t2 t3;unfold aO mM wD at*;generalize ak.map (Ar.d e)=es,aJ.map W.d=es1,fin.map W.d=es2,LK .i64 ps=l9 at*;have i0:=idx e1;have dw:j<es.length:=(aS e1)
    have hjl:(j:Int)<(es.length:Int):=ae;generalize (e x.x).bM=r at*;refine Ex.of (n:=N+100) ?_;unfold ZY;cases r
    ·rw[if_neg aC];simp[laL,f1023,t,hj0,dw,hjl,e1,i0]
    ·rw[if_pos rfl,hk1];simp[laL,f1023,t,hj0,dw,hjl,e1,i0,aP])
   (by
    apply e6;clear sA sB t1 t2 t3;unfold ZY aO;rw[<-n3];generalize ak.map (Ar.d e)=es,aJ.map W.d=es1,fin.map W.d=es2 at*;simp[laL,f1023])
  generalize aO kk ps sy st (aJ.map W.d) (fin.map W.d) (ak.map (Ar.d e))=bx at*;have sC:Ex E1 f1023.body.r.r.l.l (st0 [.u,rL 0,.u,.u,dB false,.u,.u] [bx]) (.norm,ZY bx 0 .u):=by
   apply e6;unfold ZY;simp[f1023]
  cases hr:ak.all fun a=>(e a.x).bM with
  | true =>
   rw[hr,if_pos rfl]at hloop;have sD:Ex E1 f1023.body.r.r.r (ZY bx ak.length (dB false)) (.ret,(st0 (.u::.u::dB true::mO) [bx])):=by
    apply e6;unfold ZY;simp[f1023]
   refine Ca.body (o:=.ret) rfl (k1023:E1.fn _=_) rfl (sA.seq (sB.seq (Ex.seq (sC.seq (Ex.block hloop)) sD))) aC ?_;simp[show f1023.res=[.var 2] from rfl,show f1023.ref=false from rfl]
  | false =>
   rw[hr,if_neg aC]at hloop;refine Ca.body (o:=.ret) rfl (k1023:E1.fn _=_) rfl (sA.seq (sB.seq (Ex.bN (sC.seq (Ex.bG hloop))))) aC ?_;simp[show f1023.res=[.var 2] from rfl,show f1023.ref=false from rfl]
end
end Fi.S
noncomputable section
namespace Fi.S
open Go Fi
set_option maxHeartbeats 8000000
set_option maxRecDepth 10000
section ak
variable {α:Type} {e:α->W} {kk:Int} {ps:List Int} {pl:α->α->α} {z:W} {bT:α->Bool} {G:Nat->α->Prop} {m:Nat}
theorem IM (hW:ML kk ps e pl z bT G m):∀ (l p:List (Ar α)) (n:Nat),(∀ y ∈ p,G n y.x)->(∀ x ∈ l,G 1 x.x)->n+l.length<=m->1<=n->∀ y ∈ l.foldl (fun p x=>bu pl x p) p,G (n+l.length) y.x
 | [],p,n,hp,_,_,_=>fun y hy=>hp y hy
 | x::l,p,n,hp,hl,hm,hn=>by
  intro y hy;simp only[Qf2]at hm ⊢;have hx:=hl x aC;have:=IM hW l (bu pl x p) (n+1) (o9 pl x (fun y=>G n y.x) (fun y=>G (n+1) y.x) (hW.up hx n) (fun y hy=>hW.mono _ _ hy) (fun y hy=>hW.pg n y.x x.x ae hy hx) p hp) (fun x hx=>hl x (by simp[hx])) ae ae y hy;rw[show n+(l.length+1)=n+1+l.length by omega];exact this
theorem K7 (hW:ML kk ps e pl z bT G m)(l:List (Ar α))(hl:∀ x ∈ l,G 1 x.x)(hm:1+l.length<=m):∀ y ∈ nV pl bT l,G (1+l.length) y.x:=by
 intro y hy;unfold nV di at hy;exact IM hW l [] 1 aC hl hm ae y (Xs0.1 hy).1
end ak
theorem FR {kk:Int}{ps:List Int}(hv:aR kk ps=true):∀ ws:List W,(∀ w ∈ ws,w.oP/\w.bM=true/\bU kk ps w=true)->∃ xs:List (List Sv),ws=xs.map (gN kk)/\∀ x ∈ xs,rA kk ps 1 x
 | [],_=>⟨[],rfl,aC⟩
 | w::ws,h=>by
  obtain⟨xs,h1,h2⟩:=FR hv ws (fun w hw=>h w (by simp[hw]));obtain⟨a,b,c⟩:=h w aC;obtain⟨x,hx,rfl⟩:=Im hv a b c;subst h1;exact⟨x::xs,rfl,fun y hy=>by
   rcases Qg1.1 hy with rfl|hy
   ·exact⟨ae,hx⟩
   ·exact h2 y hy⟩
theorem MU {kk:Int}{ps:List Int}(hv:aR kk ps=true):∀ aq:List (Ar W),(∀ a ∈ aq,a.x.oP/\a.x.bM=true/\bU kk ps a.x=true)->∃ xs:List (Ar (List Sv)),aq.map (Ar.d id)=xs.map (Ar.d (gN kk))/\aq.length=xs.length/\∀ x ∈ xs,rA kk ps 1 x.x
 | [],_=>⟨[],rfl,rfl,aC⟩
 | a::aq,h=>by
  obtain⟨xs,h1,h2,h3⟩:=MU hv aq (fun a ha=>h a (by simp[ha]));obtain⟨h4,h5,h6⟩:=h a aC;obtain⟨x,hx,hxe⟩:=Im hv h4 h5 h6;refine⟨⟨a.f,a.l,a.t,x⟩::xs,?_,by simp[h2],fun y hy => ?_⟩
  ·rw[Qe1,Qe1,h1]
   congr 1
   unfold Ar.d;rw[<-hxe];rfl
  ·rcases Qg1.1 hy with rfl|hy
   ·exact⟨ae,hx⟩
   ·exact h3 y hy
structure Au where
 kk:Int
 ps:List Int
 sy:Int
 st:Int
 aJ:List W
 fin:List W
 ak:List (Ar W)
def Au.d (a:Au):D:=mR a.kk a.ps a.sy a.st a.aJ a.fin id a.ak
def Au.oP (a:Au):Prop:=(∀ w ∈ a.aJ,w.oP)/\(∀ w ∈ a.fin,w.oP)/\∀ x ∈ a.ak,x.x.oP
def Au.bM (a:Au):Bool:=wE a.ps a.aJ a.fin id a.ak
def Au.same (a b:Au):Bool:=o_ a.kk a.ps a.sy a.st a.aJ a.fin a.ak b.kk b.ps b.sy b.st b.aJ b.fin b.ak id
def Au.valid (a:Au):Bool:=zi a.kk a.ps a.sy a.st a.aJ a.fin id a.ak
structure Au.Lit (a:Au):Prop where
 ps:a.ps.length<=6
 aJ:a.aJ.length<=6/\∀ w ∈ a.aJ,w.oP/\w.bM=true
 fin:a.fin.length<=6/\∀ w ∈ a.fin,w.oP/\w.bM=true
 ak:a.ak.length<=16/\∀ x ∈ a.ak,x.x.oP/\x.x.bM=true
theorem Au.lit {a:Au}(ht:a.oP)(hl:a.bM=true):a.Lit:=by
 unfold Au.bM wE xS uG at hl;simp only[Qa2,decide_eq_true_eq,Qf0]at hl;obtain⟨⟨h1,⟨h2,h3⟩,⟨h4,h5⟩,h6⟩,h7⟩:=hl;exact⟨ae,⟨ae,fun w hw=>⟨ht.1 w hw,h3 w hw⟩⟩,⟨ae,fun w hw=>⟨ht.2.1 w hw,h5 w hw⟩⟩,⟨ae,fun x hx=>⟨ht.2.2 x hx,h7 x hx⟩⟩⟩
section au
variable {a b:Au} (ha:a.Lit) (hb:b.Lit)
include ha
theorem Au.Lit.ok:(∀ w ∈ a.aJ,w.OK)/\(∀ w ∈ a.fin,w.OK)/\∀ x ∈ a.ak,(id x.x:W).OK :=
 ⟨fun w hw=>vH w (ha.aJ.2 w hw).1 (ha.aJ.2 w hw).2,fun w hw=>vH w (ha.fin.2 w hw).1 (ha.fin.2 w hw).2,fun x hx=>vH x.x (ha.ak.2 x hx).1 (ha.ak.2 x hx).2⟩
theorem Au.Lit.vZ:Ca E1 1026 [.d a.d] (dB a.valid,none)/\Ca E1 1020 [.d a.d] (dB a.valid,none):=by
 obtain⟨o1,o2,o3⟩:=ha.ok;have h1:=ha.ps;have h2:=ha.aJ.1;have h3:=ha.fin.1;have h4:=ha.ak.1;exact⟨Fi.S.vZ a.kk a.ps a.sy a.st a.aJ a.fin a.ak ae ae ae ae o1 o2 o3,Fi.S.FM a.kk a.ps a.sy a.st a.aJ a.fin a.ak ae ae ae ae o1 o2 o3⟩
include hb
theorem Au.Lit.Fh:Ca E1 1027 [.d a.d,.d b.d] (dB (a.same b),none)/\Ca E1 1014 [.d a.d,.d b.d] (dB (a.same b),none):=by
 obtain⟨o1,o2,o3⟩:=ha.ok;obtain⟨p1,p2,p3⟩:=hb.ok;have h1:=ha.ps;have h2:=ha.aJ.1;have h3:=ha.fin.1;have h4:=ha.ak.1;have g1:=hb.ps;have g2:=hb.aJ.1;have g3:=hb.fin.1;have g4:=hb.ak.1;exact⟨Fi.S.K6 a.kk a.ps a.sy a.st a.aJ a.fin a.ak b.kk b.ps b.sy b.st b.aJ b.fin b.ak ae ae ae ae ae ae ae ae o1 o2 o3 p1 p2 p3,
  Fi.S.yO a.kk a.ps a.sy a.st a.aJ a.fin a.ak b.kk b.ps b.sy b.st b.aJ b.fin b.ak ae ae ae ae ae o1 o2 o3 p1 p2 p3⟩
end au
section
structure Yw (P:Program):Prop where
 arc:lF P 61 [(3,0,1),(3,1,1),(3,2,1),(50,3,8)] 11=true
 ak:sliceB P 29 61 11=true
 auto:lF P 31 [(26,0,2),(3,2,1),(3,3,1),(28,4,1),(28,5,1),(29,6,1)] 7=true
section lift
variable {H:Type} {enc:TypeId × Value->H} {P:Program} {w:World} {base:Nat} {held:Bool} {σ:Nat->Option FuncId} {sp:Nat->Bool} {fuel:Nat} {cs:List Value} {x:DataW H × List MemPlace}
theorem MV (T:Qm P)(h:DataW.trod enc P w base sp held fuel 28 cs=some x):∃ ws:List W,(∀ v ∈ ws,v.oP)/\Rc σ (Here w) w [.s 8 (ws.map W.d)] cs:=by
 obtain⟨ht,hc⟩:=qW T.parts;obtain⟨es,g1,r5⟩:=l7 (σ:=σ) (Q:=fun d=>∃ v:W,v.oP/\d=v.d) ht ae (fun n vs y hn hy=>by
  obtain⟨v,hv,hr⟩:=yB (σ:=σ) T n hy;obtain⟨sx,ax,bx,cx,ix,ux,px,DW⟩:=v;exact⟨_,⟨_,hv,rfl⟩,by rw[hc];rfl,by intro c hc';simp[W.d,D.cells]at hc';rcases hc' with rfl|rfl|rfl|rfl|rfl|rfl|rfl|rfl<;>rfl,hr⟩) h
 have:∀ es:List D,(∀ d ∈ es,∃ v:W,v.oP/\d=v.d)->∃ l:List W,(∀ m ∈ l,m.oP)/\es=l.map W.d:=by
  intro es
  induction es with
  | nil=>intro _;exact⟨[],aC,rfl⟩
  | cons d r ih =>
   intro hd;obtain⟨n,hn,rfl⟩:=hd d (Qi0 ..);obtain⟨l,hl,rfl⟩:=ih (fun d hd'=>hd d (Qf1 _ hd'));exact⟨n::l,by intro z hz;rcases Qg1.1 hz with rfl|hz;exact hn;exact hl z hz,rfl⟩
 obtain⟨ps,hps,rfl⟩:=this es g1;rw[hc]at r5;exact⟨ps,hps,r5⟩
theorem Uk (T:Qm P)(TA:Yw P)(h:DataW.trod enc P w base sp held fuel 61 cs=some x):∃ a:Ar W,a.x.oP/\Rc σ (Here w) w (a.d id).cells cs:=by
 obtain⟨k,_,hl,hf⟩:=gu TA.arc h;obtain⟨_,h0⟩:=hf 0 3 0 1 rfl;obtain⟨_,h1⟩:=hf 1 3 1 1 rfl;obtain⟨_,h2⟩:=hf 2 3 2 1 rfl;obtain⟨_,h3⟩:=hf 3 50 3 8 rfl;obtain⟨f,_,r0⟩:=fZ (σ:=σ) (kU T.int) h0;obtain⟨l,_,r1⟩:=fZ (σ:=σ) (kU T.int) h1;obtain⟨t,_,r2⟩:=fZ (σ:=σ) (kU T.int) h2;obtain⟨v,hv,r3⟩:=yB (σ:=σ) T _ h3;refine⟨⟨f,l,t,v⟩,hv,?_⟩;have:=((r0.append r1).append r2).append r3;rw[dh,dh,dh,jO (n:=1+1+1+8) hl]at this;obtain⟨s,l1,l2,c,b,u,p,ps,ew,ed⟩:=(⟨f,l,t,v⟩:Ar W).dP id;rw[ed];simp only[id]at ew;rw[ew]at this;exact this
theorem O8 (T:Qm P)(TA:Yw P)(h:DataW.trod enc P w base sp held fuel 29 cs=some x):∃ l:List (Ar W),(∀ a ∈ l,a.x.oP)/\Rc σ (Here w) w [.s 11 (l.map (Ar.d id))] cs:=by
 obtain⟨ht,hc⟩:=qW TA.ak;obtain⟨es,h1,h2⟩:=l7 (σ:=σ) (Q:=fun d=>∃ a:Ar W,a.x.oP/\d=a.d id) ht ae (fun n vs y _ hy=>by
  obtain⟨a,ha,hr⟩:=Uk (σ:=σ) T TA hy;obtain⟨s,l1,l2,c,b,u,p,ps,ew,ed⟩:=a.dP id;refine⟨_,⟨a,ha,rfl⟩,?_,?_,hr⟩
  ·rw[hc,ed];rfl
  ·rw[ed];intro c hc';simp[mM,D.cells]at hc';rcases hc' with rfl|rfl|rfl|rfl|rfl|rfl|rfl|rfl|rfl|rfl|rfl<;>rfl) h
 have:∀ es:List D,(∀ d ∈ es,∃ a:Ar W,a.x.oP/\d=a.d id)->∃ l:List (Ar W),(∀ a ∈ l,a.x.oP)/\es=l.map (Ar.d id):=by
  intro es
  induction es with
  | nil=>intro _;exact⟨[],aC,rfl⟩
  | cons d r ih =>
   intro hd;obtain⟨n,hn,rfl⟩:=hd d (Qi0 ..);obtain⟨l,hl,rfl⟩:=ih (fun d hd'=>hd d (Qf1 _ hd'));exact⟨n::l,by intro z hz;rcases Qg1.1 hz with rfl|hz;exact hn;exact hl z hz,rfl⟩
 obtain⟨l,hl,rfl⟩:=this es h1;rw[hc]at h2;exact⟨l,hl,h2⟩
theorem O9 (T:Qm P)(TA:Yw P)(h:DataW.trod enc P w base sp held fuel 31 cs=some x):∃ a:Au,a.oP/\Rc σ (Here w) w a.d.cells cs:=by
 obtain⟨k,_,hl,hf⟩:=gu TA.auto h;obtain⟨_,h0⟩:=hf 0 26 0 2 rfl;obtain⟨_,h1⟩:=hf 1 3 2 1 rfl;obtain⟨_,h2⟩:=hf 2 3 3 1 rfl;obtain⟨_,h3⟩:=hf 3 28 4 1 rfl;obtain⟨_,h4⟩:=hf 4 28 5 1 rfl;obtain⟨_,h5⟩:=hf 5 29 6 1 rfl;obtain⟨kk,ps,_,_,r0⟩:=N_ (σ:=σ) T h0;obtain⟨sy,_,r1⟩:=fZ (σ:=σ) (kU T.int) h1;obtain⟨st,_,r2⟩:=fZ (σ:=σ) (kU T.int) h2;obtain⟨aJ,hi,r3⟩:=MV (σ:=σ) T h3;obtain⟨fin,hfi,r4⟩:=MV (σ:=σ) T h4;obtain⟨ak,ha,r5⟩:=O8 (σ:=σ) T TA h5;refine⟨⟨kk,ps,sy,st,aJ,fin,ak⟩,⟨hi,hfi,ha⟩,?_⟩;have:=((((r0.append r1).append r2).append r3).append r4).append r5;rw[dh,dh,dh,dh,dh,jO (n:=2+1+1+1+1+1) hl]at this;exact this
end lift
end
end Fi.S
