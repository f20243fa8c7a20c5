import Derived.Test.YtkekcmgkpdkieaaGreatDoorCT
set_option linter.unusedVariables false
set_option linter.unusedSimpArgs false
noncomputable section
namespace Fi.S
open Go Fi
set_option maxHeartbeats 8000000
set_option maxRecDepth 10000
section
variable {α:Type} {e:α->W}
def M7:aG:=f1074.body.r.r.l.r.bl.lp
def Ev (e:α->W)(l1 l2:List (Ar α))(g k:Nat)(bs:List ae)(t:FV):St:=(st0 [.u,.d (.s 11 (l2.map (Ar.d e))),.d (.fn g),.u,.u,.u,.u,.u,.d (.s 11 (l1.map (Ar.d e))),.d (.v (.int .i64 l1.length)),.d (.v (.int .i64 k)),t,.u] bs)
def VP (bs:List ae):St:=(st0 [.u,.u,.u,.d (.v (.bool false)),.u,.u,.u,.u,.u,.u,.u,.u,.u] bs)
theorem QW (l1 l2:List (Ar α))(g k:Nat)(bs:List ae)(x y:Ar α)(v:Bool)(h1:l1.length<=1000000)(hx:l1[k]?=some x)(hy:l2[k]?=some y)(hc:Ca E1 g [.d (x.d e),.d (y.d e)] (.d (.v (.bool v)),none)) :
  ∃ bs',Ex E1 M7 (Ev e l1 l2 g k bs .u) (if v then(.norm,Ev e l1 l2 g (k+1) bs' .u) else(.ret,VP bs')):=by
 have hkl:k<l1.length:=(bD hx)
 have o7:k<l2.length:=(bD hy)
 obtain⟨N,hf⟩:=hc.get;have e1:(l1.map (Ar.d e))[k]?=some (x.d e):=by simp[hx]
 have e2:(l2.map (Ar.d e))[k]?=some (y.d e):=by simp[hy]
 have n1:(l1.map (Ar.d e)).length=l1.length:=by simp
 have n2:(l2.map (Ar.d e)).length=l2.length:=by simp
 have bz:ah .i64 ((k:Int)+1)=(k:Int)+1:=wrap_i64 omK;have hk1:((k+1:Nat):Int)=(k:Int)+1:=by omega
 have hk0:(0:Int)<=(k:Int):=by omega
 obtain⟨B,hB⟩:∃ B,bs.length=B:=⟨_,rfl⟩
 have hg:=fun(o:ae)=>lV (o:=o) hB
 have hs:=fun(o o':ae)=>lW (o:=o) (o':=o') hB
 have hg2:=fun(o o2:ae)=>lV (bs:=bs++[o]) (o:=o2) (k:=B+1) (by simp[hB])
 have hs2:=fun(o o2 o':ae)=>lW (bs:=bs++[o]) (o:=o2) (o':=o') (k:=B+1) (by simp[hB])
 have hg3:∀ (o o2:ae),(bs++[o]++[o2])[B]?=some o:=fun o o2=>by rw[Qo1,Qc1 omK,hB];simp
 simp only[Qo1,Q52,Qy0]at hg2 hs2 hg3;refine⟨bs++[.box ((x.d e).cells.map .d)]++[.box ((y.d e).cells.map .d)],Ex.of (n:=N+300) ?_⟩;unfold Ev VP;rw[hk1];obtain⟨sx,lx1,lx2,cx,bx,ux,qx,KZ,_,ex⟩:=x.jD e;obtain⟨sy,ly1,ly2,cy,by2,uy,qy,psy,_,ey⟩:=y.jD e;rw[ex]at e1 hf ⊢;rw[ey]at e2 hf ⊢;unfold yO at*;simp only[D.cells,Qd2,Qc0];generalize List.map (Ar.d e) l1=es1,List.map (Ar.d e) l2=es2 at*;have i1:=idx e1;have i2:=idx e2;cases v
 ·simp -implicitDefEqProofs[M7,f1074,hkl,o7,hk0,e1,e2,i1,i2,n1,n2,hB,hg,hs,hg2,hs2,hg3,hf]
 ·simp -implicitDefEqProofs[M7,f1074,hkl,o7,hk0,e1,e2,i1,i2,n1,n2,hB,hg,hs,hg2,hs2,hg3,hf,bz]
theorem VQ (eq:Ar α->Ar α->Bool)(l1 l2:List (Ar α))(g:Nat)(h1:l1.length<=1000000)(hl:l1.length=l2.length)(hc:∀ x ∈ l1,∀ y ∈ l2,Ca E1 g [.d (x.d e),.d (y.d e)] (.d (.v (.bool (eq x y))),none)) :
  ∃ r,Ex E1 (.loop M7) (Ev e l1 l2 g 0 [] .u) r/\((iT eq l1 l2=true/\∃ bs,r=(.exit 0,Ev e l1 l2 g l1.length bs (.d (.v (.bool false)))))\/(iT eq l1 l2=false/\∃ bs,r=(.ret,VP bs))):=by
 refine Ex.inv (S:=fun t:Nat × List ae=>Ev e l1 l2 g t.1 t.2 .u) (fun t=>l1.length-t.1) (fun t=>t.1<=l1.length/\iT eq l1 l2=iT eq (l1.drop t.1) (l2.drop t.1)) _ ?_ (0,[]) ⟨by simp,by simp⟩;rintro⟨k,bs⟩ ⟨q1,q2⟩;simp only at q1 q2
 by_cases hk:k<l1.length
 ·have hx:l1[k]?=some (l1[k]'hk):=Qa0 hk;have hy:l2[k]?=some (l2[k]'(by omega)):=Qa0 omK;have d1:l1.drop k=l1[k]'hk::l1.drop (k+1):=Qj0 hk;have d2:l2.drop k=l2[k]'(by omega)::l2.drop (k+1):=Qj0 omK;obtain⟨bs',hr⟩:=QW l1 l2 g k bs _ _ _ h1 hx hy (hc _ (Qi2 hk) _ (Qi2 omK));rw[d1,d2]at q2;simp only[iT]at q2;cases hv:eq (l1[k]'hk) (l2[k]'(by omega))
  ·rw[hv]at hr q2;exact .inr ⟨_,hr,by simp,.inr ⟨by simpa using q2,bs',rfl⟩⟩
  ·rw[hv]at hr q2;exact .inl ⟨(k+1,bs'),hr,by simp only;omega,by simp only;omega,by simpa using q2⟩
 ·have he:k=l1.length:=by omega
  subst he;rw[Qt1,hl,Qt1]at q2;refine .inr ⟨_,Ex.of (n:=60) ?_,?_,.inl ⟨by rw[q2];rfl,bs,rfl⟩⟩
  ·unfold Ev;generalize List.map (Ar.d e) l1=es1,List.map (Ar.d e) l2=es2,l1.length=m at*;simp -implicitDefEqProofs[M7,f1074]
  ·simp
theorem adf (eq:Ar α->Ar α->Bool)(l1 l2:List (Ar α))(g:Nat)(h1:l1.length<=1000000)(h2:l2.length<=1000000)(hc:∀ x ∈ l1,∀ y ∈ l2,Ca E1 g [.d (x.d e),.d (y.d e)] (.d (.v (.bool (eq x y))),none)) :
  Ca E1 1074 [.d (.s 11 (l1.map (Ar.d e))),.d (.s 11 (l2.map (Ar.d e))),.d (.fn g)] (.d (.v (.bool (iT eq l1 l2))),none):=by
 have n1:(l1.map (Ar.d e)).length=l1.length:=by simp
 have n2:(l2.map (Ar.d e)).length=l2.length:=by simp
 have hA:Ex E1 f1074.body.l (st0 [.d (.s 11 (l1.map (Ar.d e))),.d (.s 11 (l2.map (Ar.d e))),.d (.fn g),.u,.u,.u,.u,.u,.u,.u,.u,.u,.u] []) (.norm,(st0 [.d (.s 11 (l1.map (Ar.d e))),.d (.s 11 (l2.map (Ar.d e))),.d (.fn g),.u,.u,.u,.u,.u,.u,.u,.u,.u,.u] [])):=by
  refine Ex.of (n:=40) ?_;generalize List.map (Ar.d e) l1=es1,List.map (Ar.d e) l2=es2 at*;simp -implicitDefEqProofs[f1074]
 by_cases hl:l1.length=l2.length
 ·obtain⟨r,hr,h⟩:=VQ eq l1 l2 g h1 hl hc;have hB:Ex E1 f1074.body.r.l (st0 [.d (.s 11 (l1.map (Ar.d e))),.d (.s 11 (l2.map (Ar.d e))),.d (.fn g),.u,.u,.u,.u,.u,.u,.u,.u,.u,.u] []) (.norm,(st0 [.d (.s 11 (l1.map (Ar.d e))),.d (.s 11 (l2.map (Ar.d e))),.d (.fn g),.u,.u,.u,.u,.d (.v (.bool false)),.u,.u,.u,.u,.u] [])):=by
   refine Ex.of (n:=40) ?_;generalize List.map (Ar.d e) l1=es1,List.map (Ar.d e) l2=es2 at*;simp -implicitDefEqProofs[f1074,n1,n2,hl]
  have hC:Ex E1 f1074.body.r.r.l.l (st0 [.d (.s 11 (l1.map (Ar.d e))),.d (.s 11 (l2.map (Ar.d e))),.d (.fn g),.u,.u,.u,.u,.d (.v (.bool false)),.u,.u,.u,.u,.u] []) (.norm,Ev e l1 l2 g 0 [] .u):=by
   refine Ex.of (n:=40) ?_;unfold Ev;generalize List.map (Ar.d e) l1=es1,List.map (Ar.d e) l2=es2 at*;simp -implicitDefEqProofs[f1074,n1]
  rcases h with ⟨hv,bs,rfl⟩|⟨hv,bs,rfl⟩
  ·rw[hv];refine Ca.body (o:=.ret) (st1:=(st0 [.u,.u,.u,.d (.v (.bool true)),.u,.u,.u,.u,.u,.u,.u,.u,.u] bs)) rfl (k1074:E1.fn _=_) rfl ?_ (by intro id h;cases h) ?_
   ·show Ex E1 (.seq f1074.body.l (.seq f1074.body.r.l (.seq (.seq f1074.body.r.r.l.l (.block 0 (.loop M7))) f1074.body.r.r.r))) _ _;refine hA.seq (hB.seq ((hC.seq hr.block).seq (Ex.of (n:=40) ?_)));unfold Ev;generalize List.map (Ar.d e) l1=es1,List.map (Ar.d e) l2=es2 at*;simp -implicitDefEqProofs[f1074]
   ·simp -implicitDefEqProofs[f1074]
  ·rw[hv];refine Ca.body (o:=.ret) (st1:=VP bs) rfl (k1074:E1.fn _=_) rfl ?_ (by intro id h;cases h) ?_
   ·show Ex E1 (.seq f1074.body.l (.seq f1074.body.r.l (.seq (.seq f1074.body.r.r.l.l (.block 0 (.loop M7))) f1074.body.r.r.r))) _ _;exact hA.seq (hB.seq (hC.seq hr.b_).dG)
   ·simp -implicitDefEqProofs[f1074,VP]
 ·have hf:iT eq l1 l2=false:=by
   cases h:iT eq l1 l2
   ·rfl
   ·exact absurd (j6 h) hl
  have hne:((l1.length:Int) != (l2.length:Int))=true:=by simp;omega
  rw[hf];refine Ca.bO (n:=60) ?_;rw[av rfl (k1074:E1.fn _=_) rfl];generalize List.map (Ar.d e) l1=es1,List.map (Ar.d e) l2=es2 at*;simp -implicitDefEqProofs[f1074,n1,n2,hne]
theorem A8 {β:Type}(eq:β->β->Bool):∀ l m:List β,iT eq l m=(decide ((l.length:Int)=m.length)&&(l.zip m).all fun p=>eq p.1 p.2)
 | [],[]=>rfl
 | [],y::m=>by simp[iT];omega
 | x::l,[]=>by simp[iT];omega
 | x::l,y::m=>by
  rw[iT,A8 eq l m];have:decide (((x::l).length:Int)=(y::m).length)=decide ((l.length:Int)=m.length):=by
   rw[decide_eq_decide];simp
  rw[this,List.zip_cons_cons,List.all_cons];cases eq x y<;>simp
def Zy (e:α->W)(x y:Ar α):Bool:=decide (ng x y=0)&&(e x.x).eq (e y.x)
theorem Zz (x y:Ar α)(hx:(e x.x).OK)(hy:(e y.x).OK):Ca E1 1069 [.d (x.d e),.d (y.d e)] (.d (.v (.bool (Zy e x y))),none):=by
 obtain⟨K,hK,t1,t2⟩:=((Ca.fP (Ca.bO (xk e 0 x y))).j ((Ca.fP (jF _ hx _ hy)).any)).at 0;unfold Zy;generalize (e x.x).eq (e y.x)=b,ng x y=o at*;obtain⟨s,l1,l2,c,b',u,q,ps,ew,ed⟩:=x.jD e;obtain⟨s',l1',l2',c',b'',u',q',ps',ew',ed'⟩:=y.jD e;simp only[ed,ed']at t1 ⊢;simp only[ew,ew']at t2;clear ew ew' ed ed' hx hy hK;unfold yO wD at*;refine Ca.bO (n:=K+100) ?_;rw[av rfl (k1069:E1.fn _=_) rfl]
 by_cases ho:o=0
 ·subst ho;simp -implicitDefEqProofs[f1069,t1,t2]
 ·have h2:(o==0)=false:=by simpa using ho
  simp -implicitDefEqProofs[f1069,t1,t2,ho,h2]
theorem M8 (kk:Int)(ps:List Int)(sy st:Int)(aM fin:List W)(ak:List (Ar α))(kk':Int)(ps':List Int)(sy' st':Int)(Df fin':List W)(rW:List (Ar α))(hl:ps.length<=1000000)(hl':ps'.length<=1000000)
  (h1:aM.length<=1000000) (h2:fin.length<=1000000) (h3:ak.length<=1000000) (h1':Df.length<=1000000) (h2':fin'.length<=1000000) (h3':rW.length<=1000000) (o1:∀ w ∈ aM,w.OK) (o2:∀ w ∈ fin,w.OK) (o3:∀ a ∈ ak,(e a.x).OK) (ZA:∀ w ∈ Df,w.OK) (ZB:∀ w ∈ fin',w.OK) (o3':∀ a ∈ rW,(e a.x).OK) :
  Ca E1 1027 [.d (uP kk ps sy st aM fin e ak),.d (uP kk' ps' sy' st' Df fin' e rW)] (.d (.v (.bool (AZ kk ps sy st aM fin ak kk' ps' sy' st' Df fin' rW e))),none):=by
 obtain⟨K,hK,t1,t2,t3,t4⟩:=((Ca.fP (TW kk kk' ps ps' omK omK)).j ((Ca.fP (LU W.eq aM Df 34 h1 h1' (fun x hx y hy=>jF x (o1 x hx) y (ZA y hy)))).j ((Ca.fP (LU W.eq fin fin' 34 h2 h2' (fun x hx y hy=>jF x (o2 x hx) y (ZB y hy)))).j ((adf (e:=e) (Zy e) ak rW 1069 h3 h3' (fun x hx y hy=>Zz x y (o3 x hx) (o3' y hy))).any)))).at 0;have e2:iT W.eq aM Df=jv aM Df:=A8 _ _ _;have e3:iT W.eq fin fin'=jv fin fin':=A8 _ _ _;have e4:iT (Zy e) ak rW=JZ e ak rW:=A8 _ _ _;rw[e2]at t2;rw[e3]at t3;rw[e4]at t4;unfold AZ;clear o1 o2 o3 ZA ZB o3' e2 e3 e4 h1 h2 h3 h1' h2' h3' hl hl' hK;generalize yF kk ps kk' ps'=b1,jv aM Df=b2,jv fin fin'=b3,JZ e ak rW=b4 at*;unfold uP qW bA at*;generalize LK .i64 ps=l9 at*;generalize LK .i64 ps'=l9',aM.map W.d=es1,fin.map W.d=es2,ak.map (Ar.d e)=es3,Df.map W.d=alj,fin'.map W.d=alk,rW.map (Ar.d e)=alm at*;refine Ca.bO (n:=K+200) ?_;rw[av rfl (k1027:E1.fn _=_) rfl];cases b1
 ·simp -implicitDefEqProofs[f1027,t1]
 by_cases c1:sy=sy'
 rotate_left
 ·have c1':(sy==sy')=false:=by simpa using c1
  simp -implicitDefEqProofs[f1027,t1,c1,c1']
 subst c1
 by_cases c2:st=st'
 rotate_left
 ·have c2':(st==st')=false:=by simpa using c2
  simp -implicitDefEqProofs[f1027,t1,c2,c2']
 subst c2;cases b2
 ·simp -implicitDefEqProofs[f1027,t1,t2]
 cases b3
 ·simp -implicitDefEqProofs[f1027,t1,t2,t3]
 cases b4<;>simp -implicitDefEqProofs[f1027,t1,t2,t3,t4]
end
end Fi.S
