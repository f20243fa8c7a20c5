import Derived.Test.YtckkhcnfdmlabaaGreatDoorCS2
set_option linter.unusedVariables false
set_option linter.unusedSimpArgs false
noncomputable section
namespace Fi.S
open Go Fi
set_option maxHeartbeats 8000000
set_option maxRecDepth 10000
section
variable {α:Type} {e:α->W}
def MQ:aG:=f1074.body.r.r.l.r.bl.lp
def EN (e:α->W)(l1 l2:List (Ar α))(g k:Nat)(bs:List ae)(t:FV):St:=(st0 [.u,.d (.s 11 (l2.map (Ar.d e))),.d (.fn g),.u,.u,.u,.u,.u,.d (.s 11 (l1.map (Ar.d e))),.d (.v (.int .i64 l1.length)),.d (.v (.int .i64 k)),t,.u] bs)
def VT (bs:List ae):St:=(st0 [.u,.u,.u,.d (.v (.bool false)),.u,.u,.u,.u,.u,.u,.u,.u,.u] bs)
theorem QR (l1 l2:List (Ar α))(g k:Nat)(bs:List ae)(x y:Ar α)(v:Bool)(h1:l1.length<=1000000)(hx:l1[k]?=some x)(hy:l2[k]?=some y)(hc:Ca E1 g [.d (x.d e),.d (y.d e)] (.d (.v (.bool v)),none)) :
  ∃ bs',Ex E1 MQ (EN e l1 l2 g k bs .u) (if v then(.norm,EN e l1 l2 g (k+1) bs' .u) else(.ret,VT bs')):=by
 have hkl:k<l1.length:=(aW hx)
 have nU:k<l2.length:=(aW hy)
 obtain⟨N,hf⟩:=hc.get;have e1:(l1.map (Ar.d e))[k]?=some (x.d e):=by simp[hx]
 have e2:(l2.map (Ar.d e))[k]?=some (y.d e):=by simp[hy]
 have n1:(l1.map (Ar.d e)).length=l1.length:=by simp
 have n2:(l2.map (Ar.d e)).length=l2.length:=by simp
 have aQ:ak .i64 ((k:Int)+1)=(k:Int)+1:=wrap_i64 (by omega);have hk1:((k+1:Nat):Int)=(k:Int)+1:=by omega
 have hk0:(0:Int)<=(k:Int):=by omega
 obtain⟨B,hB⟩:∃ B,bs.length=B:=⟨_,rfl⟩
 have hg:=fun(o:ae)=>kW (o:=o) hB
 have hs:=fun(o o':ae)=>kX (o:=o) (o':=o') hB
 have hg2:=fun(o o2:ae)=>kW (bs:=bs++[o]) (o:=o2) (k:=B+1) (by simp[hB])
 have hs2:=fun(o o2 o':ae)=>kX (bs:=bs++[o]) (o:=o2) (o':=o') (k:=B+1) (by simp[hB])
 have hg3:∀ (o o2:ae),(bs++[o]++[o2])[B]?=some o:=fun o o2=>by rw[List.append_assoc,List.getElem?_append_right (by omega),hB];simp
 simp only[List.append_assoc,List.cons_append,List.nil_append]at hg2 hs2 hg3;refine⟨bs++[.box ((x.d e).cells.map .d)]++[.box ((y.d e).cells.map .d)],Ex.of (n:=N+300) ?_⟩;unfold EN VT;rw[hk1];obtain⟨sx,lx1,lx2,cx,bx,ux,qx,Fp,_,ex⟩:=x.dN e;obtain⟨sy,ly1,ly2,cy,by2,uy,qy,psy,_,ey⟩:=y.dN e;rw[ex]at e1 hf ⊢;rw[ey]at e2 hf ⊢;unfold nW at*;simp only[D.cells,List.map_cons,List.map_nil];generalize List.map (Ar.d e) l1=es1,List.map (Ar.d e) l2=es2 at*;have i1:=idx e1;have i2:=idx e2;cases v
 ·simp -implicitDefEqProofs[MQ,f1074,hkl,nU,hk0,e1,e2,i1,i2,n1,n2,hB,hg,hs,hg2,hs2,hg3,hf]
 ·simp -implicitDefEqProofs[MQ,f1074,hkl,nU,hk0,e1,e2,i1,i2,n1,n2,hB,hg,hs,hg2,hs2,hg3,hf,aQ]
theorem VU (eq:Ar α->Ar α->Bool)(l1 l2:List (Ar α))(g:Nat)(h1:l1.length<=1000000)(hl:l1.length=l2.length)(hc:∀ x ∈ l1,∀ y ∈ l2,Ca E1 g [.d (x.d e),.d (y.d e)] (.d (.v (.bool (eq x y))),none)) :
  ∃ r,Ex E1 (.loop MQ) (EN e l1 l2 g 0 [] .u) r/\((iQ eq l1 l2=true/\∃ bs,r=(.exit 0,EN e l1 l2 g l1.length bs (.d (.v (.bool false)))))\/(iQ eq l1 l2=false/\∃ bs,r=(.ret,VT bs))):=by
 refine Ex.inv (S:=fun t:Nat × List ae=>EN e l1 l2 g t.1 t.2 .u) (fun t=>l1.length-t.1) (fun t=>t.1<=l1.length/\iQ eq l1 l2=iQ eq (l1.drop t.1) (l2.drop t.1)) _ ?_ (0,[]) ⟨by simp,by simp⟩;rintro⟨k,bs⟩ ⟨q1,q2⟩;simp only at q1 q2
 by_cases hk:k<l1.length
 ·have hx:l1[k]?=some (l1[k]'hk):=List.getElem?_eq_getElem hk;have hy:l2[k]?=some (l2[k]'(by omega)):=List.getElem?_eq_getElem (by omega);have d1:l1.drop k=l1[k]'hk::l1.drop (k+1):=List.drop_eq_getElem_cons hk;have d2:l2.drop k=l2[k]'(by omega)::l2.drop (k+1):=List.drop_eq_getElem_cons (by omega);obtain⟨bs',hr⟩:=QR l1 l2 g k bs _ _ _ h1 hx hy (hc _ (List.getElem_mem hk) _ (List.getElem_mem (by omega)));rw[d1,d2]at q2;simp only[iQ]at q2;cases hv:eq (l1[k]'hk) (l2[k]'(by omega))
  ·rw[hv]at hr q2;exact .inr ⟨_,hr,by simp,.inr ⟨by simpa using q2,bs',rfl⟩⟩
  ·rw[hv]at hr q2;exact .inl ⟨(k+1,bs'),hr,by simp only;omega,by simp only;omega,by simpa using q2⟩
 ·have he:k=l1.length:=by omega
  subst he;rw[List.drop_length,hl,List.drop_length]at q2;refine .inr ⟨_,Ex.of (n:=60) ?_,?_,.inl ⟨by rw[q2];rfl,bs,rfl⟩⟩
  ·unfold EN;generalize List.map (Ar.d e) l1=es1,List.map (Ar.d e) l2=es2,l1.length=m at*;simp -implicitDefEqProofs[MQ,f1074]
  ·simp
theorem adp (eq:Ar α->Ar α->Bool)(l1 l2:List (Ar α))(g:Nat)(h1:l1.length<=1000000)(h2:l2.length<=1000000)(hc:∀ x ∈ l1,∀ y ∈ l2,Ca E1 g [.d (x.d e),.d (y.d e)] (.d (.v (.bool (eq x y))),none)) :
  Ca E1 1074 [.d (.s 11 (l1.map (Ar.d e))),.d (.s 11 (l2.map (Ar.d e))),.d (.fn g)] (.d (.v (.bool (iQ eq l1 l2))),none):=by
 have n1:(l1.map (Ar.d e)).length=l1.length:=by simp
 have n2:(l2.map (Ar.d e)).length=l2.length:=by simp
 have hA:Ex E1 f1074.body.l (st0 [.d (.s 11 (l1.map (Ar.d e))),.d (.s 11 (l2.map (Ar.d e))),.d (.fn g),.u,.u,.u,.u,.u,.u,.u,.u,.u,.u] []) (.norm,(st0 [.d (.s 11 (l1.map (Ar.d e))),.d (.s 11 (l2.map (Ar.d e))),.d (.fn g),.u,.u,.u,.u,.u,.u,.u,.u,.u,.u] [])):=by
  refine Ex.of (n:=40) ?_;generalize List.map (Ar.d e) l1=es1,List.map (Ar.d e) l2=es2 at*;simp -implicitDefEqProofs[f1074]
 by_cases hl:l1.length=l2.length
 ·obtain⟨r,hr,h⟩:=VU eq l1 l2 g h1 hl hc;have hB:Ex E1 f1074.body.r.l (st0 [.d (.s 11 (l1.map (Ar.d e))),.d (.s 11 (l2.map (Ar.d e))),.d (.fn g),.u,.u,.u,.u,.u,.u,.u,.u,.u,.u] []) (.norm,(st0 [.d (.s 11 (l1.map (Ar.d e))),.d (.s 11 (l2.map (Ar.d e))),.d (.fn g),.u,.u,.u,.u,.d (.v (.bool false)),.u,.u,.u,.u,.u] [])):=by
   refine Ex.of (n:=40) ?_;generalize List.map (Ar.d e) l1=es1,List.map (Ar.d e) l2=es2 at*;simp -implicitDefEqProofs[f1074,n1,n2,hl]
  have hC:Ex E1 f1074.body.r.r.l.l (st0 [.d (.s 11 (l1.map (Ar.d e))),.d (.s 11 (l2.map (Ar.d e))),.d (.fn g),.u,.u,.u,.u,.d (.v (.bool false)),.u,.u,.u,.u,.u] []) (.norm,EN e l1 l2 g 0 [] .u):=by
   refine Ex.of (n:=40) ?_;unfold EN;generalize List.map (Ar.d e) l1=es1,List.map (Ar.d e) l2=es2 at*;simp -implicitDefEqProofs[f1074,n1]
  rcases h with ⟨hv,bs,rfl⟩|⟨hv,bs,rfl⟩
  ·rw[hv];refine Ca.body (o:=.ret) (st1:=(st0 [.u,.u,.u,.d (.v (.bool true)),.u,.u,.u,.u,.u,.u,.u,.u,.u] bs)) rfl (k1074:E1.fn _=_) rfl ?_ (by intro id h;cases h) ?_
   ·show Ex E1 (.seq f1074.body.l (.seq f1074.body.r.l (.seq (.seq f1074.body.r.r.l.l (.block 0 (.loop MQ))) f1074.body.r.r.r))) _ _;refine hA.seq (hB.seq ((hC.seq hr.block).seq (Ex.of (n:=40) ?_)));unfold EN;generalize List.map (Ar.d e) l1=es1,List.map (Ar.d e) l2=es2 at*;simp -implicitDefEqProofs[f1074]
   ·simp -implicitDefEqProofs[f1074]
  ·rw[hv];refine Ca.body (o:=.ret) (st1:=VT bs) rfl (k1074:E1.fn _=_) rfl ?_ (by intro id h;cases h) ?_
   ·show Ex E1 (.seq f1074.body.l (.seq f1074.body.r.l (.seq (.seq f1074.body.r.r.l.l (.block 0 (.loop MQ))) f1074.body.r.r.r))) _ _;exact hA.seq (hB.seq (hC.seq hr.bB).bM)
   ·simp -implicitDefEqProofs[f1074,VT]
 ·have hf:iQ eq l1 l2=false:=by
   cases h:iQ eq l1 l2
   ·rfl
   ·exact absurd (kE h) hl
  have hne:((l1.length:Int) != (l2.length:Int))=true:=by simp;omega
  rw[hf];refine Ca.bD (n:=60) ?_;rw[av rfl (k1074:E1.fn _=_) rfl];generalize List.map (Ar.d e) l1=es1,List.map (Ar.d e) l2=es2 at*;simp -implicitDefEqProofs[f1074,n1,n2,hne]
theorem BF {β:Type}(eq:β->β->Bool):∀ l m:List β,iQ eq l m=(decide ((l.length:Int)=m.length)&&(l.zip m).all fun p=>eq p.1 p.2)
 | [],[]=>rfl
 | [],y::m=>by simp[iQ];omega
 | x::l,[]=>by simp[iQ];omega
 | x::l,y::m=>by
  rw[iQ,BF eq l m];have:decide (((x::l).length:Int)=(y::m).length)=decide ((l.length:Int)=m.length):=by
   rw[decide_eq_decide];simp
  rw[this,List.zip_cons_cons,List.all_cons];cases eq x y<;>simp
def ZK (e:α->W)(x y:Ar α):Bool:=decide (iW x y=0)&&(e x.x).eq (e y.x)
theorem ZL (x y:Ar α)(hx:(e x.x).OK)(hy:(e y.x).OK):Ca E1 1069 [.d (x.d e),.d (y.d e)] (.d (.v (.bool (ZK e x y))),none):=by
 obtain⟨K,hK,t1,t2⟩:=((Ca.dW (Ca.bD (xQ e 0 x y))).j ((Ca.dW (jL _ hx _ hy)).any)).at 0;unfold ZK;generalize (e x.x).eq (e y.x)=b,iW x y=o at*;obtain⟨s,l1,l2,c,b',u,q,ps,ew,ed⟩:=x.dN e;obtain⟨s',l1',l2',c',b'',u',q',ps',ew',Xr⟩:=y.dN e;simp only[ed,Xr]at t1 ⊢;simp only[ew,ew']at t2;clear ew ew' ed Xr hx hy hK;unfold nW wD at*;refine Ca.bD (n:=K+100) ?_;rw[av rfl (k1069:E1.fn _=_) rfl]
 by_cases ho:o=0
 ·subst ho;simp -implicitDefEqProofs[f1069,t1,t2]
 ·have h2:(o==0)=false:=by simpa using ho
  simp -implicitDefEqProofs[f1069,t1,t2,ho,h2]
theorem MR (kk:Int)(ps:List Int)(sy st:Int)(aN fin:List W)(ah:List (Ar α))(EL:Int)(ps':List Int)(DL st':Int)(jV fin':List W)(dD:List (Ar α))(hl:ps.length<=1000000)(hl':ps'.length<=1000000)
  (h1:aN.length<=1000000) (h2:fin.length<=1000000) (h3:ah.length<=1000000) (h1':jV.length<=1000000) (h2':fin'.length<=1000000) (h3':dD.length<=1000000) (o1:∀ w ∈ aN,w.OK) (o2:∀ w ∈ fin,w.OK) (o3:∀ a ∈ ah,(e a.x).OK) (QG:∀ w ∈ jV,w.OK) (QH:∀ w ∈ fin',w.OK) (o3':∀ a ∈ dD,(e a.x).OK) :
  Ca E1 1027 [.d (jf kk ps sy st aN fin e ah),.d (jf EL ps' DL st' jV fin' e dD)] (.d (.v (.bool (qP kk ps sy st aN fin ah EL ps' DL st' jV fin' dD e))),none):=by
 obtain⟨K,hK,t1,t2,t3,t4⟩:=((Ca.dW (TQ kk EL ps ps' (by omega) (by omega))).j ((Ca.dW (LF W.eq aN jV 34 h1 h1' (fun x hx y hy=>jL x (o1 x hx) y (QG y hy)))).j ((Ca.dW (LF W.eq fin fin' 34 h2 h2' (fun x hx y hy=>jL x (o2 x hx) y (QH y hy)))).j ((adp (e:=e) (ZK e) ah dD 1069 h3 h3' (fun x hx y hy=>ZL x y (o3 x hx) (o3' y hy))).any)))).at 0;have e2:iQ W.eq aN jV=dU aN jV:=BF _ _ _;have e3:iQ W.eq fin fin'=dU fin fin':=BF _ _ _;have e4:iQ (ZK e) ah dD=FY e ah dD:=BF _ _ _;rw[e2]at t2;rw[e3]at t3;rw[e4]at t4;unfold qP;clear o1 o2 o3 QG QH o3' e2 e3 e4 h1 h2 h3 h1' h2' h3' hl hl' hK;generalize fH kk ps EL ps'=b1,dU aN jV=b2,dU fin fin'=b3,FY e ah dD=b4 at*;unfold jf fA aP at*;generalize LK .i64 ps=l9 at*;generalize LK .i64 ps'=l9',aN.map W.d=es1,fin.map W.d=es2,ah.map (Ar.d e)=Xp,jV.map W.d=afN,fin'.map W.d=afO,dD.map (Ar.d e)=ac5 at*;refine Ca.bD (n:=K+200) ?_;rw[av rfl (k1027:E1.fn _=_) rfl];cases b1
 ·simp -implicitDefEqProofs[f1027,t1]
 by_cases c1:sy=DL
 rotate_left
 ·have c1':(sy==DL)=false:=by simpa using c1
  simp -implicitDefEqProofs[f1027,t1,c1,c1']
 subst c1
 by_cases c2:st=st'
 rotate_left
 ·have c2':(st==st')=false:=by simpa using c2
  simp -implicitDefEqProofs[f1027,t1,c2,c2']
 subst c2;cases b2
 ·simp -implicitDefEqProofs[f1027,t1,t2]
 cases b3
 ·simp -implicitDefEqProofs[f1027,t1,t2,t3]
 cases b4<;>simp -implicitDefEqProofs[f1027,t1,t2,t3,t4]
end
section
variable {α:Type} {e:α->W}
def wC (n:Int)(ws:List W):Bool:=decide ((ws.length:Int)<=n)&&ws.all W.bC
def llL:aG:=f1061.body.r.r.l.r.bl.lp
def llS (es:List D)(j:Nat)(t:FV):St:=(st0 [.d (.s 8 es),.u,.u,.d (.v (.int .i64 j)),.u,t,.u] [])
theorem F4 (ws:List W)(n:Int)(hn0:n<=1000000):Ca E1 1061 [.d (.s 8 (ws.map W.d)),.d (.v (.int .i64 n))] (.d (.v (.bool (wC n ws))),none):=by
 have n1:(ws.map W.d).length=ws.length:=by simp
 unfold wC
 by_cases hlen:(ws.length:Int)<=n
 ·have hgt:¬ n<(ws.length:Int):=by omega
  have hn:ws.length<=1000000:=by omega
  rw[decide_eq_true hlen,Bool.true_and];have hloop:=Ex.mI (E:=E1) (b:=llL) ws W.bC (fun j=>llS (ws.map W.d) j .u) (.exit 0,llS (ws.map W.d) ws.length (.d (.v (.bool false))))
   (.ret,(st0 [.u,.u,.d (.v (.bool false)),.u,.u,.u,.u] [])) (by simp) (by simp)
   (fun j x hx=>by
    have hj:j<ws.length:=(aW hx)
    obtain⟨N,t⟩:=(Ca.dW (xz x)).get;have hj0:(0:Int)<=(j:Int):=by omega
    have aQ:ak .i64 ((j:Int)+1)=(j:Int)+1:=wrap_i64 (by omega);have hk1:((j+1:Nat):Int)=(j:Int)+1:=by omega
    have e1:(ws.map W.d)[j]?=some x.d:=by simp[hx]
    obtain⟨s,l1,l2,c,b,u,q,ps,ex⟩:=x.aF;simp only[ex]at t e1;unfold wD at*;generalize ws.map W.d=es at*;have i0:=idx e1;have fM:j<es.length:=(aW e1)
    have hjl:(j:Int)<(es.length:Int):=by omega
    generalize x.bC=r at*;refine Ex.of (n:=N+100) ?_;unfold llS;cases r
    ·rw[if_neg (by simp)];simp -implicitDefEqProofs[llL,f1061,t,hj0,fM,hjl,e1,i0]
    ·rw[if_pos rfl,hk1];simp -implicitDefEqProofs[llL,f1061,t,hj0,fM,hjl,e1,i0,aQ])
   (by
    refine Ex.of (n:=60) ?_;unfold llS;rw[<-n1];generalize ws.map W.d=es at*;simp -implicitDefEqProofs[llL,f1061])
  have sA:Ex E1 f1061.body.l (st0 [.d (.s 8 (ws.map W.d)),.d (.v (.int .i64 n)),.u,.u,.u,.u,.u] []) (.norm,(st0 [.d (.s 8 (ws.map W.d)),.d (.v (.int .i64 n)),.u,.u,.u,.u,.u] [])):=by
   refine Ex.of (n:=60) ?_;simp -implicitDefEqProofs[f1061]
  have sB:Ex E1 f1061.body.r.l (st0 [.d (.s 8 (ws.map W.d)),.d (.v (.int .i64 n)),.u,.u,.u,.u,.u] []) (.norm,(st0 [.d (.s 8 (ws.map W.d)),.u,.u,.u,.d (.v (.bool false)),.u,.u] [])):=by
   refine Ex.of (n:=60) ?_;rw[<-n1]at hgt;clear hloop;generalize ws.map W.d=es at*;simp -implicitDefEqProofs[f1061,hgt]
  have sC:Ex E1 f1061.body.r.r.l.l (st0 [.d (.s 8 (ws.map W.d)),.u,.u,.u,.d (.v (.bool false)),.u,.u] []) (.norm,llS (ws.map W.d) 0 .u):=by
   refine Ex.of (n:=60) ?_;unfold llS;simp -implicitDefEqProofs[f1061]
  cases hr:ws.all W.bC with
  | true =>
   rw[hr,if_pos rfl]at hloop;have sD:Ex E1 f1061.body.r.r.r (llS (ws.map W.d) ws.length (.d (.v (.bool false)))) (.ret,(st0 [.u,.u,.d (.v (.bool true)),.u,.u,.u,.u] [])):=by
    refine Ex.of (n:=60) ?_;unfold llS;simp -implicitDefEqProofs[f1061]
   refine Ca.body (o:=.ret) rfl (k1061:E1.fn _=_) rfl (sA.seq (sB.seq (Ex.seq (sC.seq (Ex.block hloop)) sD))) (by simp) ?_;simp[show f1061.res=[.var 2] from rfl,show f1061.ref=false from rfl]
  | false =>
   rw[hr,if_neg (by simp)]at hloop;refine Ca.body (o:=.ret) rfl (k1061:E1.fn _=_) rfl (sA.seq (sB.seq (Ex.bM (sC.seq (Ex.bB hloop))))) (by simp) ?_;simp[show f1061.res=[.var 2] from rfl,show f1061.ref=false from rfl]
 ·have hgt:n<(ws.length:Int):=by omega
  rw[decide_eq_false hlen,Bool.false_and];refine Ca.bD (n:=100) ?_;rw[av rfl (k1061:E1.fn _=_) rfl];rw[<-n1]at hgt;generalize ws.map W.d=es at*;simp -implicitDefEqProofs[f1061,hgt]
def zK (ps:List Int)(aN fin:List W)(n:Nat):Bool:=decide ((ps.length:Int)<=6)&&(wC 6 aN&&(wC 6 fin&&decide ((n:Int)<=16)))
def yj (ps:List Int)(aN fin:List W)(e:α->W)(ah:List (Ar α)):Bool:=zK ps aN fin ah.length&&ah.all fun a=>(e a.x).bC
def laL:aG:=f1023.body.r.r.l.r.bl.lp
def laS (b1:ae)(j:Nat)(t:FV):St:=(st0 [.u,.r (.loc 0) 0,.u,.d (.v (.int .i64 j)),.u,t,.u] [b1])
theorem tQ (kk:Int)(ps:List Int)(sy st:Int)(aN fin:List W)(ah:List (Ar α)) :
  Ca E1 1023 [.d (jf kk ps sy st aN fin e ah)] (.d (.v (.bool (yj ps aN fin e ah))),none):=by
 obtain⟨K,hK,t1,t2,t3⟩:=((Ca.dW (Ca.bD (ve 0 kk ps))).j ((F4 aN 6 (by omega)).j ((F4 fin 6 (by omega)).any))).at 0;have n3:(ah.map (Ar.d e)).length=ah.length:=by simp
 have sA:Ex E1 f1023.body.l (st0 [.d (jf kk ps sy st aN fin e ah),.u,.u,.u,.u,.u,.u] [])
   (.norm,(st0 [.u,.r (.loc 0) 0,.u,.u,.u,.u,.u] [aO kk ps sy st (aN.map W.d) (fin.map W.d) (ah.map (Ar.d e))])):=by
  refine Ex.of (n:=60) ?_;unfold jf fA aO;simp -implicitDefEqProofs[f1023]
 have sB:Ex E1 f1023.body.r.l (st0 [.u,.r (.loc 0) 0,.u,.u,.u,.u,.u] [aO kk ps sy st (aN.map W.d) (fin.map W.d) (ah.map (Ar.d e))])
   (if zK ps aN fin ah.length
    then(.norm,(st0 [.u,.r (.loc 0) 0,.u,.u,.d (.v (.bool false)),.u,.u] [aO kk ps sy st (aN.map W.d) (fin.map W.d) (ah.map (Ar.d e))]))
    else(.ret,(st0 [.u,.u,.d (.v (.bool false)),.u,.u,.u,.u] [aO kk ps sy st (aN.map W.d) (fin.map W.d) (ah.map (Ar.d e))]))):=by
  refine Ex.of (n:=K+200) ?_;unfold zK;clear sA;generalize decide ((ps.length:Int)<=6)=b1 at*;generalize wC 6 aN=b2,wC 6 fin=b3,ah.length=m3 at*;unfold aO aP at*;generalize LK .i64 ps=l9,aN.map W.d=es1,fin.map W.d=es2,ah.map (Ar.d e)=Xp at*;cases b1
  ·simp -implicitDefEqProofs[f1023,t1]
  cases b2
  ·simp -implicitDefEqProofs[f1023,t1,t2]
  cases b3
  ·simp -implicitDefEqProofs[f1023,t1,t2,t3]
  by_cases c3:(m3:Int)<=16
  ·have c3':¬ 16<(m3:Int):=by omega
   rw[decide_eq_true c3];clear c3;simp -implicitDefEqProofs[f1023,t1,t2,t3,c3',n3]
  ·have c3':16<(m3:Int):=by omega
   rw[decide_eq_false c3];clear c3;simp -implicitDefEqProofs[f1023,t1,t2,t3,c3',n3]
 unfold yj;cases hH:zK ps aN fin ah.length with
 | false =>
  rw[hH,if_neg (by simp)]at sB;rw[Bool.false_and];refine Ca.body (o:=.ret) rfl (k1023:E1.fn _=_) rfl (sA.seq (Ex.bM sB)) (by simp) ?_;simp[show f1023.res=[.var 2] from rfl,show f1023.ref=false from rfl]
 | true =>
  rw[hH,if_pos rfl]at sB;rw[Bool.true_and];have h3:ah.length<=1000000:=by
   unfold zK at hH;simp only[Bool.and_eq_true,decide_eq_true_eq]at hH;omega
  have hloop:=Ex.mI (E:=E1) (b:=laL) ah (fun a=>(e a.x).bC) (fun j=>laS (aO kk ps sy st (aN.map W.d) (fin.map W.d) (ah.map (Ar.d e))) j .u) (.exit 0,laS (aO kk ps sy st (aN.map W.d) (fin.map W.d) (ah.map (Ar.d e))) ah.length (.d (.v (.bool false))))
   (.ret,(st0 [.u,.u,.d (.v (.bool false)),.u,.u,.u,.u] [aO kk ps sy st (aN.map W.d) (fin.map W.d) (ah.map (Ar.d e))])) (by simp) (by simp)
   (fun j x hx=>by
    have hj:j<ah.length:=(aW hx)
    obtain⟨N,t⟩:=(Ca.dW (xz (e x.x))).get;have hj0:(0:Int)<=(j:Int):=by omega
    have aQ:ak .i64 ((j:Int)+1)=(j:Int)+1:=wrap_i64 (by omega);have hk1:((j+1:Nat):Int)=(j:Int)+1:=by omega
    have e1:(ah.map (Ar.d e))[j]?=some (x.d e):=by simp[hx]
    obtain⟨s,l1,l2,c,b,u,q,ps',ex,ed⟩:=x.dN e;rw[ed]at e1;simp only[ex]at t;clear sA sB t1 t2 t3;unfold aO nW wD at*;generalize ah.map (Ar.d e)=es,aN.map W.d=es1,fin.map W.d=es2,LK .i64 ps=l9 at*;have i0:=idx e1;have fM:j<es.length:=(aW e1)
    have hjl:(j:Int)<(es.length:Int):=by omega
    generalize (e x.x).bC=r at*;refine Ex.of (n:=N+100) ?_;unfold laS;cases r
    ·rw[if_neg (by simp)];simp -implicitDefEqProofs[laL,f1023,t,hj0,fM,hjl,e1,i0]
    ·rw[if_pos rfl,hk1];simp -implicitDefEqProofs[laL,f1023,t,hj0,fM,hjl,e1,i0,aQ])
   (by
    refine Ex.of (n:=60) ?_;clear sA sB t1 t2 t3;unfold laS aO;rw[<-n3];generalize ah.map (Ar.d e)=es,aN.map W.d=es1,fin.map W.d=es2,LK .i64 ps=l9 at*;simp -implicitDefEqProofs[laL,f1023])
  generalize aO kk ps sy st (aN.map W.d) (fin.map W.d) (ah.map (Ar.d e))=bx at*;have sC:Ex E1 f1023.body.r.r.l.l (st0 [.u,.r (.loc 0) 0,.u,.u,.d (.v (.bool false)),.u,.u] [bx]) (.norm,laS bx 0 .u):=by
   refine Ex.of (n:=60) ?_;unfold laS;simp -implicitDefEqProofs[f1023]
  cases hr:ah.all fun a=>(e a.x).bC with
  | true =>
   rw[hr,if_pos rfl]at hloop;have sD:Ex E1 f1023.body.r.r.r (laS bx ah.length (.d (.v (.bool false)))) (.ret,(st0 [.u,.u,.d (.v (.bool true)),.u,.u,.u,.u] [bx])):=by
    refine Ex.of (n:=60) ?_;unfold laS;simp -implicitDefEqProofs[f1023]
   refine Ca.body (o:=.ret) rfl (k1023:E1.fn _=_) rfl (sA.seq (sB.seq (Ex.seq (sC.seq (Ex.block hloop)) sD))) (by simp) ?_;simp[show f1023.res=[.var 2] from rfl,show f1023.ref=false from rfl]
  | false =>
   rw[hr,if_neg (by simp)]at hloop;refine Ca.body (o:=.ret) rfl (k1023:E1.fn _=_) rfl (sA.seq (sB.seq (Ex.bM (sC.seq (Ex.bB hloop))))) (by simp) ?_;simp[show f1023.res=[.var 2] from rfl,show f1023.ref=false from rfl]
end
end Fi.S
noncomputable section
namespace Fi.S
open Go Fi
set_option maxHeartbeats 8000000
set_option maxRecDepth 10000
section ah
variable {α:Type} {e:α->W} {kk:Int} {ps:List Int} {pl:α->α->α} {z:W} {fJ:α->Bool} {G:Nat->α->Prop} {m:Nat}
theorem Ka (hW:MF kk ps e pl z fJ G m):∀ (l p:List (Ar α)) (n:Nat),(∀ y ∈ p,G n y.x)->(∀ x ∈ l,G 1 x.x)->n+l.length<=m->1<=n->∀ y ∈ l.foldl (fun p x=>bY pl x p) p,G (n+l.length) y.x
 | [],p,n,hp,_,_,_=>fun y hy=>hp y hy
 | x::l,p,n,hp,hl,hm,hn=>by
  intro y hy;simp only[List.length_cons]at hm ⊢;have hx:=hl x (by simp);have:=Ka hW l (bY pl x p) (n+1) (wo pl x (fun y=>G n y.x) (fun y=>G (n+1) y.x) (hW.up hx n) (fun y hy=>hW.mono _ _ hy) (fun y hy=>hW.pg n y.x x.x (by omega) hy hx) p hp) (fun x hx=>hl x (by simp[hx])) (by omega) (by omega) y hy;rw[show n+(l.length+1)=n+1+l.length by omega];exact this
theorem DY (hW:MF kk ps e pl z fJ G m)(l:List (Ar α))(hl:∀ x ∈ l,G 1 x.x)(hm:1+l.length<=m):∀ y ∈ lK pl fJ l,G (1+l.length) y.x:=by
 intro y hy;unfold lK dS at hy;exact Ka hW l [] 1 (by simp) hl hm (by omega) y (List.mem_filter.1 hy).1
end ah
theorem yh {kk:Int}{ps:List Int}(hv:aH kk ps=true):∀ ws:List W,(∀ w ∈ ws,w.nA/\w.bC=true/\bO kk ps w=true)->∃ xs:List (List Sv),ws=xs.map (bA kk)/\∀ x ∈ xs,om kk ps 1 x
 | [],_=>⟨[],rfl,by simp⟩
 | w::ws,h=>by
  obtain⟨xs,h1,h2⟩:=yh hv ws (fun w hw=>h w (by simp[hw]));obtain⟨a,b,c⟩:=h w (by simp);obtain⟨x,hx,rfl⟩:=Dw hv a b c;subst h1;exact⟨x::xs,rfl,fun y hy=>by
   rcases List.mem_cons.1 hy with rfl|hy
   ·exact⟨by omega,hx⟩
   ·exact h2 y hy⟩
theorem Hz {kk:Int}{ps:List Int}(hv:aH kk ps=true):∀ aq:List (Ar W),(∀ a ∈ aq,a.x.nA/\a.x.bC=true/\bO kk ps a.x=true)->∃ xs:List (Ar (List Sv)),aq.map (Ar.d id)=xs.map (Ar.d (bA kk))/\aq.length=xs.length/\∀ x ∈ xs,om kk ps 1 x.x
 | [],_=>⟨[],rfl,rfl,by simp⟩
 | a::aq,h=>by
  obtain⟨xs,h1,h2,h3⟩:=Hz hv aq (fun a ha=>h a (by simp[ha]));obtain⟨h4,h5,h6⟩:=h a (by simp);obtain⟨x,hx,hxe⟩:=Dw hv h4 h5 h6;refine⟨⟨a.f,a.l,a.t,x⟩::xs,?_,by simp[h2],fun y hy => ?_⟩
  ·rw[List.map_cons,List.map_cons,h1]
   congr 1
   unfold Ar.d;rw[<-hxe];rfl
  ·rcases List.mem_cons.1 hy with rfl|hy
   ·exact⟨by omega,hx⟩
   ·exact h3 y hy
structure Au where
 kk:Int
 ps:List Int
 sy:Int
 st:Int
 aN:List W
 fin:List W
 ah:List (Ar W)
def Au.d (a:Au):D:=jf a.kk a.ps a.sy a.st a.aN a.fin id a.ah
def Au.nA (a:Au):Prop:=(∀ w ∈ a.aN,w.nA)/\(∀ w ∈ a.fin,w.nA)/\∀ x ∈ a.ah,x.x.nA
def Au.bC (a:Au):Bool:=yj a.ps a.aN a.fin id a.ah
def Au.same (a b:Au):Bool:=qP a.kk a.ps a.sy a.st a.aN a.fin a.ah b.kk b.ps b.sy b.st b.aN b.fin b.ah id
def Au.valid (a:Au):Bool:=rP a.kk a.ps a.sy a.st a.aN a.fin id a.ah
structure Au.Lit (a:Au):Prop where
 ps:a.ps.length<=6
 aN:a.aN.length<=6/\∀ w ∈ a.aN,w.nA/\w.bC=true
 fin:a.fin.length<=6/\∀ w ∈ a.fin,w.nA/\w.bC=true
 ah:a.ah.length<=16/\∀ x ∈ a.ah,x.x.nA/\x.x.bC=true
theorem Au.lit {a:Au}(ht:a.nA)(hl:a.bC=true):a.Lit:=by
 unfold Au.bC yj zK wC at hl;simp only[Bool.and_eq_true,decide_eq_true_eq,List.all_eq_true]at hl;obtain⟨⟨h1,⟨h2,h3⟩,⟨h4,h5⟩,h6⟩,h7⟩:=hl;exact⟨by omega,⟨by omega,fun w hw=>⟨ht.1 w hw,h3 w hw⟩⟩,⟨by omega,fun w hw=>⟨ht.2.1 w hw,h5 w hw⟩⟩,⟨by omega,fun x hx=>⟨ht.2.2 x hx,h7 x hx⟩⟩⟩
section au
variable {a b:Au} (ha:a.Lit) (hb:b.Lit)
include ha
theorem Au.Lit.ok:(∀ w ∈ a.aN,w.OK)/\(∀ w ∈ a.fin,w.OK)/\∀ x ∈ a.ah,(id x.x:W).OK :=
 ⟨fun w hw=>o9 w (ha.aN.2 w hw).1 (ha.aN.2 w hw).2,fun w hw=>o9 w (ha.fin.2 w hw).1 (ha.fin.2 w hw).2,fun x hx=>o9 x.x (ha.ah.2 x hx).1 (ha.ah.2 x hx).2⟩
theorem Au.Lit.jg:Ca E1 1026 [.d a.d] (.d (.v (.bool a.valid)),none)/\Ca E1 1020 [.d a.d] (.d (.v (.bool a.valid)),none):=by
 obtain⟨o1,o2,o3⟩:=ha.ok;have h1:=ha.ps;have h2:=ha.aN.1;have h3:=ha.fin.1;have h4:=ha.ah.1;exact⟨Fi.S.jg a.kk a.ps a.sy a.st a.aN a.fin a.ah (by omega) (by omega) (by omega) (by omega) o1 o2 o3,Fi.S.qO a.kk a.ps a.sy a.st a.aN a.fin a.ah (by omega) (by omega) (by omega) (by omega) o1 o2 o3⟩
include hb
theorem Au.Lit.xm:Ca E1 1027 [.d a.d,.d b.d] (.d (.v (.bool (a.same b))),none)/\Ca E1 1014 [.d a.d,.d b.d] (.d (.v (.bool (a.same b))),none):=by
 obtain⟨o1,o2,o3⟩:=ha.ok;obtain⟨p1,p2,p3⟩:=hb.ok;have h1:=ha.ps;have h2:=ha.aN.1;have h3:=ha.fin.1;have h4:=ha.ah.1;have g1:=hb.ps;have g2:=hb.aN.1;have g3:=hb.fin.1;have g4:=hb.ah.1;exact⟨Fi.S.MR a.kk a.ps a.sy a.st a.aN a.fin a.ah b.kk b.ps b.sy b.st b.aN b.fin b.ah (by omega) (by omega) (by omega) (by omega) (by omega) (by omega) (by omega) (by omega) o1 o2 o3 p1 p2 p3,
  Fi.S.AA a.kk a.ps a.sy a.st a.aN a.fin a.ah b.kk b.ps b.sy b.st b.aN b.fin b.ah (by omega) (by omega) (by omega) (by omega) (by omega) o1 o2 o3 p1 p2 p3⟩
end au
end Fi.S
namespace Fi.S
open Go Fi
section
structure VV (P:Program):Prop where
 arc:mr P 68 [(3,0,1),(3,1,1),(3,2,1),(32,3,8)] 11=true
 ah:sliceB P 36 68 11=true
 auto:mr P 38 [(24,0,2),(3,2,1),(3,3,1),(30,4,1),(30,5,1),(36,6,1)] 7=true
section lift
variable {H:Type} {enc:TypeId × Value->H} {P:Program} {w:World} {base:Nat} {held:Bool} {σ:Nat->Option FuncId} {sp:Nat->Bool} {fuel:Nat} {cs:List Value} {x:DataW H × List MemPlace}
theorem OA (T:RP P)(h:DataW.trod enc P w base sp held fuel 30 cs=some x):∃ ws:List W,(∀ v ∈ ws,v.nA)/\Rc σ (Here w) w [.s 8 (ws.map W.d)] cs:=by
 obtain⟨ht,hc⟩:=sN T.parts;obtain⟨es,g1,r5⟩:=nC (σ:=σ) (Q:=fun d=>∃ v:W,v.nA/\d=v.d) ht (by omega) (fun n vs y hn hy=>by
  obtain⟨v,hv,hr⟩:=sO (σ:=σ) T n hy;obtain⟨sx,ax,bx,cx,ix,ux,px,Fp⟩:=v;exact⟨_,⟨_,hv,rfl⟩,by rw[hc];rfl,by intro c hc';simp[W.d,D.cells]at hc';rcases hc' with rfl|rfl|rfl|rfl|rfl|rfl|rfl|rfl<;>rfl,hr⟩) h
 have:∀ es:List D,(∀ d ∈ es,∃ v:W,v.nA/\d=v.d)->∃ l:List W,(∀ m ∈ l,m.nA)/\es=l.map W.d:=by
  intro es
  induction es with
  | nil=>intro _;exact⟨[],by simp,rfl⟩
  | cons d r ih =>
   intro hd;obtain⟨n,hn,rfl⟩:=hd d (List.mem_cons_self ..);obtain⟨l,hl,rfl⟩:=ih (fun d hd'=>hd d (List.mem_cons_of_mem _ hd'));exact⟨n::l,by intro z hz;rcases List.mem_cons.1 hz with rfl|hz;exact hn;exact hl z hz,rfl⟩
 obtain⟨ps,hps,rfl⟩:=this es g1;rw[hc]at r5;exact⟨ps,hps,r5⟩
theorem VW (T:RP P)(TA:VV P)(h:DataW.trod enc P w base sp held fuel 68 cs=some x):∃ a:Ar W,a.x.nA/\Rc σ (Here w) w (a.d id).cells cs:=by
 obtain⟨k,_,hl,hf⟩:=gN TA.arc h;obtain⟨_,h0⟩:=hf 0 3 0 1 rfl;obtain⟨_,h1⟩:=hf 1 3 1 1 rfl;obtain⟨_,h2⟩:=hf 2 3 2 1 rfl;obtain⟨_,h3⟩:=hf 3 32 3 8 rfl;obtain⟨f,_,r0⟩:=gq (σ:=σ) (lZ T.int) h0;obtain⟨l,_,r1⟩:=gq (σ:=σ) (lZ T.int) h1;obtain⟨t,_,r2⟩:=gq (σ:=σ) (lZ T.int) h2;obtain⟨v,hv,r3⟩:=sO (σ:=σ) T _ h3;refine⟨⟨f,l,t,v⟩,hv,?_⟩;have:=((r0.append r1).append r2).append r3;rw[dh,dh,dh,kF (n:=1+1+1+8) hl]at this;obtain⟨s,l1,l2,c,b,u,p,ps,ew,ed⟩:=(⟨f,l,t,v⟩:Ar W).dN id;rw[ed];simp only[id]at ew;rw[ew]at this;exact this
theorem QS (T:RP P)(TA:VV P)(h:DataW.trod enc P w base sp held fuel 36 cs=some x):∃ l:List (Ar W),(∀ a ∈ l,a.x.nA)/\Rc σ (Here w) w [.s 11 (l.map (Ar.d id))] cs:=by
 obtain⟨ht,hc⟩:=sN TA.ah;obtain⟨es,h1,h2⟩:=nC (σ:=σ) (Q:=fun d=>∃ a:Ar W,a.x.nA/\d=a.d id) ht (by omega) (fun n vs y _ hy=>by
  obtain⟨a,ha,hr⟩:=VW (σ:=σ) T TA hy;obtain⟨s,l1,l2,c,b,u,p,ps,ew,ed⟩:=a.dN id;refine⟨_,⟨a,ha,rfl⟩,?_,?_,hr⟩
  ·rw[hc,ed];rfl
  ·rw[ed];intro c hc';simp[nW,D.cells]at hc';rcases hc' with rfl|rfl|rfl|rfl|rfl|rfl|rfl|rfl|rfl|rfl|rfl<;>rfl) h
 have:∀ es:List D,(∀ d ∈ es,∃ a:Ar W,a.x.nA/\d=a.d id)->∃ l:List (Ar W),(∀ a ∈ l,a.x.nA)/\es=l.map (Ar.d id):=by
  intro es
  induction es with
  | nil=>intro _;exact⟨[],by simp,rfl⟩
  | cons d r ih =>
   intro hd;obtain⟨n,hn,rfl⟩:=hd d (List.mem_cons_self ..);obtain⟨l,hl,rfl⟩:=ih (fun d hd'=>hd d (List.mem_cons_of_mem _ hd'));exact⟨n::l,by intro z hz;rcases List.mem_cons.1 hz with rfl|hz;exact hn;exact hl z hz,rfl⟩
 obtain⟨l,hl,rfl⟩:=this es h1;rw[hc]at h2;exact⟨l,hl,h2⟩
theorem zL (T:RP P)(TA:VV P)(h:DataW.trod enc P w base sp held fuel 38 cs=some x):∃ a:Au,a.nA/\Rc σ (Here w) w a.d.cells cs:=by
 obtain⟨k,_,hl,hf⟩:=gN TA.auto h;obtain⟨_,h0⟩:=hf 0 24 0 2 rfl;obtain⟨_,h1⟩:=hf 1 3 2 1 rfl;obtain⟨_,h2⟩:=hf 2 3 3 1 rfl;obtain⟨_,h3⟩:=hf 3 30 4 1 rfl;obtain⟨_,h4⟩:=hf 4 30 5 1 rfl;obtain⟨_,h5⟩:=hf 5 36 6 1 rfl;obtain⟨kk,ps,_,_,r0⟩:=Fv (σ:=σ) T h0;obtain⟨sy,_,r1⟩:=gq (σ:=σ) (lZ T.int) h1;obtain⟨st,_,r2⟩:=gq (σ:=σ) (lZ T.int) h2;obtain⟨aN,hi,r3⟩:=OA (σ:=σ) T h3;obtain⟨fin,hfi,r4⟩:=OA (σ:=σ) T h4;obtain⟨ah,ha,r5⟩:=QS (σ:=σ) T TA h5;refine⟨⟨kk,ps,sy,st,aN,fin,ah⟩,⟨hi,hfi,ha⟩,?_⟩;have:=((((r0.append r1).append r2).append r3).append r4).append r5;rw[dh,dh,dh,dh,dh,kF (n:=2+1+1+1+1+1) hl]at this;exact this
end lift
end
end Fi.S
