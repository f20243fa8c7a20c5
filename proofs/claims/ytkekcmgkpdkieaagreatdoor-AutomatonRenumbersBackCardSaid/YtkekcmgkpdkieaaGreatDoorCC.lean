import Derived.Test.YtkekcmgkpdkieaaGreatDoorCB
set_option linter.unusedVariables false
set_option linter.unusedSimpArgs false
noncomputable section
namespace Fi.S
open Go Fi
set_option maxHeartbeats 8000000
theorem Ca.same {E:Env}{g g':Nat}{args:List FV}{r:FV × Option (List ae)}(hf:E.fn g'=E.fn g)(hp:E.ja g=none)(hp':E.ja g'=none)(h:Ca E g args r)(hB:E.iF g'=E.iF g:=by rfl):Ca E g' args r:=by
 obtain⟨n0,h⟩:=h;refine⟨n0+1,fun n hn => ?_⟩;obtain⟨m,rfl⟩:∃ m,n=m+1:=⟨n-1,by omega⟩
 rw[<-h (m+1) omK];simp only[bW,enter,hf,hp,hp',hB]
theorem wG (l:List Nat)(hl:l.length<=1000000000):Ca E0 169 [.d (LD l)] (.d (LD (trim l)),none) :=
 Ca.same (g:=231) ((k169:E0.fn _=_).trans (k231:E0.fn _=_).symm) rfl rfl (iC l hl)
theorem wH (n:Nat)(l:List Nat)(hl:l.length<=1000000000)(i:Nat)(hi:i<=1000000000)(hb:∀ x ∈ l,x<4294967296) :
  CL E0 (n+30) 173 [.d (LD l),.d (.v (.int .i64 i))] []=some (.d (.v (.int .u64 (bF l i))),none):=by
 rw[av rfl (k173:E0.fn _=_) rfl]
 by_cases h:i<l.length
 ·have h1:¬ ((i:Int) ≥ (l.length:Int)):=by omega
  have h2:¬ ((l.length:Int)<=(i:Int)):=by omega
  have h3:¬ (l.length<=i):=by omega
  have hx:l[i]?=some l[i]:=Qa0 h;have hw:ah .u64 (l[i]:Int)=(l[i]:Int):=wrap_u64 (by have:=hb l[i] (Qi2 h);omega);have ha:bF l i=l[i]:=by simp[bF,hx]
  simp -implicitDefEqProofs[f173,LD,LL,h,h1,h2,h3,hx,hw,ha]
 ·have h1:((i:Int) ≥ (l.length:Int)):=by omega
  have h2:l.length<=i:=by omega
  have ha:bF l i=0:=by simp[bF,Qn2 (Nat.le_of_not_lt h)]
  simp -implicitDefEqProofs[f173,LD,LL,h1,h2,ha]
theorem IV (n:Nat)(v:Int):CL E0 (n+30) 174 [.d (.v (.int .i64 v))] []=some (.d (.v (.int .i64 v.sign)),none):=by
 rw[av rfl (k174:E0.fn _=_) rfl];rcases Q81 v 0 with h|h|h
 ·rw[Q10 h];simp -implicitDefEqProofs[f174,h]
 ·rw[h];simp -implicitDefEqProofs[f174]
 ·have h2:¬ v<0:=by omega
  rw[Q80 h];simp -implicitDefEqProofs[f174,h,h2]
theorem BB (n:Nat)(l:List Nat):CL E0 (n+30) 172 [.d (LD l)] []=some (.d (.v (.bool (decide (l=[1])))),none):=by
 rw[av rfl (k172:E0.fn _=_) rfl]
 match l with
 | []=>simp -implicitDefEqProofs[f172,LD,LL]
 | [x] =>
  by_cases h:x=1
  ·subst h;simp -implicitDefEqProofs[f172,LD,LL]
  ·have h2:((x:Int)==1)=false:=by simp;omega
   simp -implicitDefEqProofs[f172,LD,LL,h,h2]
 | x::y::r =>
  have h2:(((r.length:Int)+1+1)==1)=false:=by simp;omega
  have h3:(((r.length:Int)+1)==0)=false:=by simp;omega
  simp -implicitDefEqProofs[f172,LD,LL,h2,h3]
def cpB:aG:=f91.body.r.r.l.r.bl.lp
def RZ (a b:List Nat)(k:Int)(t:FV):St:=(st0 [.d (LD a),.d (LD b),.u,.d (.v (.int .i64 k)),.u,t,.u] [])
def cpR (s:Int):St:=(st0 [.u,.u,.d (.v (.int .i64 s)),.u,.u,.u,.u] [])
theorem Tq (a b:List Nat):EX E0 40 cpB (RZ a b (-1) .u)=some (.exit 0,RZ a b (-1) (.d (.v (.bool false)))):=by
 unfold RZ;simp only[LD];generalize LL a=as',LL b=bs at*;simp -implicitDefEqProofs[cpB,f91]
theorem Lv (a b:List Nat)(k x y:Nat)(hk:k<=1000000000)(hx:a[k]?=some x)(hy:b[k]?=some y)(hxl:x<4294967296)(hyl:y<4294967296) :
  EX E0 80 cpB (RZ a b k .u)=if x=y then some (.norm,RZ a b ((k:Int)-1) .u) else some (.ret,cpR ((x:Int)-(y:Int)).sign):=by
 have hxa:(LL a)[k]?=some (.v (.int .u32 (x:Int))):=by simp[LL,hx]
 have hxb:(LL b)[k]?=some (.v (.int .u32 (y:Int))):=by simp[LL,hy]
 have ha:k<(LL a).length:=by simpa[LL] using(bD hx)
 have hb:k<(LL b).length:=by simpa[LL] using(bD hy)
 have hdec:ah .i64 ((k:Int)-1)=(k:Int)-1:=wrap_i64 omK;have hk0:(0:Int)<=(k:Int):=by omega
 have w1:ah .i64 (x:Int)=(x:Int):=wrap_i64 omK;have w2:ah .i64 (y:Int)=(y:Int):=wrap_i64 omK;have w3:ah .i64 ((x:Int)-(y:Int))=(x:Int)-(y:Int):=wrap_i64 omK;have hs:=IV;unfold RZ cpR;simp only[LD];generalize LL a=as',LL b=bs at*;have i1:=idx hxa;have i2:=idx hxb
 by_cases h:x=y
 ·rw[if_pos h];subst h;simp -implicitDefEqProofs[cpB,f91,hk0,ha,hb,hxa,hxb,i1,i2,hdec]
 ·have hne:((x:Int) != (y:Int))=true:=by simp;omega
  rw[if_neg h];simp -implicitDefEqProofs[cpB,f91,hk0,ha,hb,hxa,hxb,i1,i2,hne,w1,w2,w3,hs]
theorem yC (l:List Nat)(k:Nat):val l=bY l k+4294967296 ^ k*val (l.drop k):=by
 unfold bY;rcases Nat.le_total k l.length with h|h
 ·conv=>lhs;rw[<-Xe0 k l,val_append,Qr1,Xm2 h]
 ·rw[Qg0 h,iE h,Nat.mul_zero,Q70]
theorem PS (a b:List Nat)(ha:bV a)(hb:bV b)(hl:a.length=b.length)(hm:a.length<=1000000000) :
  ∃ r,Ex E0 (.loop cpB) (RZ a b ((a.length:Int)-1) .u) r/\((r=(.exit 0,RZ a b (-1) (.d (.v (.bool false))))/\val a=val b)\/∃ s,r=(.ret,cpR s)/\s=dO (val a) (val b)):=by
 refine Ex.inv (S:=fun j:Nat=>RZ a b ((j:Int)-1) .u) (fun j=>j) (fun j=>j<=a.length/\val (a.drop j)=val (b.drop j)) _ ?_ a.length ?_
 ·rintro j ⟨h1,h2⟩;cases j with
  | zero =>
   refine .inr ⟨_,?_,by simp,.inl ⟨rfl,by simpa using h2⟩⟩;have:=Tq a b;simpa using Ex.of this
  | succ k =>
   have hx:a[k]?=some (a[k]'(by omega)):=Qa0 omK;have hy:b[k]?=some (b[k]'(by omega)):=Qa0 omK;have ex:bF a k=a[k]'(by omega):=by simp[bF,hx]
   have ey:bF b k=b[k]'(by omega):=by simp[bF,hy]
   have hxl:=ha _ (Qi2 (show k<a.length by omega));have hyl:=hb _ (Qi2 (show k<b.length by omega));generalize a[k]'(by omega)=x,b[k]'(by omega)=y at*;have hr:=Lv a b k x y omK hx hy hxl hyl;simp only[show(((k+1:Nat):Int)-1)=(k:Int) by omega];have da:=iZ a k;have db:=iZ b k
   by_cases h:x=y
   ·rw[if_pos h]at hr;refine .inl ⟨k,Ex.of hr,by omega,by omega,?_⟩;rw[da,db,ex,ey,h,h2]
   ·rw[if_neg h]at hr;refine .inr ⟨_,Ex.of hr,by simp,.inr ⟨_,rfl,?_⟩⟩;have sa:=yC a k;have sb:=yC b k;rw[da,ex]at sa;rw[db,ey,<-h2]at sb;have la:=nV ha k;have lb:=nV hb k;unfold dO;rcases Nat.lt_or_gt_of_ne h with hlt|hgt
    ·have:=jE (va:=bY a k) (vb:=bY b k) (P:=4294967296 ^ k) (x:=x+4294967296*val (a.drop (k+1))) (y:=y+4294967296*val (a.drop (k+1))) la omK;rw[if_pos omK,Q10 omK]
    ·have:=jE (va:=bY b k) (vb:=bY a k) (P:=4294967296 ^ k) (x:=y+4294967296*val (a.drop (k+1))) (y:=x+4294967296*val (a.drop (k+1))) lb omK;rw[if_neg omK,if_neg omK,Q80 omK]
 ·exact⟨Qd1 _,by rw[iE (Qd1 _),iE omK]⟩
theorem Oc (a b:Nat)(la:sz a<=1000000000)(lb:sz b<=1000000000):Ca E0 91 [.d (LD (enc a)),.d (LD (enc b))] (.d (.v (.int .i64 (dO a b))),none):=by
 unfold sz at la lb;have uY:(LL (enc a)).length=(enc a).length:=by simp[LL]
 have Ef:(LL (enc b)).length=(enc b).length:=by simp[LL]
 by_cases hl:(enc a).length=(enc b).length
 ·obtain⟨r,hloop,hq⟩:=PS (enc a) (enc b) (aS a) (aS b) hl la;rw[aV,aV]at hq;have hdec:ah .i64 (((enc a).length:Int)-1)=((enc a).length:Int)-1:=wrap_i64 omK;have hA:Ex E0 f91.body.l (st0 [.d (LD (enc a)),.d (LD (enc b)),.u,.u,.u,.u,.u] []) (.norm,(st0 [.d (LD (enc a)),.d (LD (enc b)),.u,.u,.u,.u,.u] [])):=by
   refine Ex.of (n:=40) ?_;simp -implicitDefEqProofs[f91]
  have hB:Ex E0 f91.body.r.l (st0 [.d (LD (enc a)),.d (LD (enc b)),.u,.u,.u,.u,.u] []) (.norm,(st0 [.d (LD (enc a)),.d (LD (enc b)),.u,.u,.d (.v (.bool false)),.u,.u] [])):=by
   refine Ex.of (n:=40) ?_;simp only[LD];generalize LL (enc a)=as',LL (enc b)=bs at*;simp -implicitDefEqProofs[f91,uY,Ef,hl]
  have hC:Ex E0 f91.body.r.r.l.l (st0 [.d (LD (enc a)),.d (LD (enc b)),.u,.u,.d (.v (.bool false)),.u,.u] []) (.norm,RZ (enc a) (enc b) (((enc a).length:Int)-1) .u):=by
   refine Ex.of (n:=40) ?_;unfold RZ;simp only[LD];generalize LL (enc a)=as',LL (enc b)=bs,(enc a).length=m at*;simp -implicitDefEqProofs[f91,uY,hdec]
  rcases hq with ⟨rfl,he⟩|⟨s,rfl,rfl⟩
  ·subst he;have e0:dO a a=0:=by simp[dO]
   rw[e0];refine Ca.body (o:=.ret) (st1:=cpR 0) rfl (k91:E0.fn _=_) rfl ?_ (by intro id h;cases h) (by unfold cpR;simp -implicitDefEqProofs[f91]);show Ex E0 (.seq f91.body.l (.seq f91.body.r.l (.seq (.seq f91.body.r.r.l.l (.block 0 (.loop cpB))) f91.body.r.r.r))) _ _;refine hA.seq (hB.seq ((hC.seq hloop.block).seq (Ex.of (n:=40) ?_)));unfold RZ cpR;simp -implicitDefEqProofs[f91]
  ·refine Ca.body (o:=.ret) (st1:=cpR (dO a b)) rfl (k91:E0.fn _=_) rfl ?_ (by intro id h;cases h) (by unfold cpR;simp -implicitDefEqProofs[f91]);show Ex E0 (.seq f91.body.l (.seq f91.body.r.l (.seq (.seq f91.body.r.r.l.l (.block 0 (.loop cpB))) f91.body.r.r.r))) _ _;exact hA.seq (hB.seq ((hC.seq hloop.b_).dG))
 ·have hw:ah .i64 (((enc a).length:Int)-((enc b).length:Int))=((enc a).length:Int)-((enc b).length:Int):=wrap_i64 omK;have hs:=IV;have hc:(((enc a).length:Int)-((enc b).length:Int)).sign=dO a b:=by
   have ga:=yz a;have gb:=yz b;unfold dO;rcases Nat.lt_or_gt_of_ne hl with h|h
   ·have hb0:0<b:=by
     rcases Qt0 b with e|e
     ·rw[e,dx]at h;simp at h
     ·exact e
    have h2:=Ls hb0;have h3:=Qt2 (n:=4294967296) omK (show(enc a).length<=(enc b).length-1 by omega);rw[if_pos omK,Q10 omK]
   ·have ha0:0<a:=by
     rcases Qt0 a with e|e
     ·rw[e,dx]at h;simp at h
     ·exact e
    have h2:=Ls ha0;have h3:=Qt2 (n:=4294967296) omK (show(enc b).length<=(enc a).length-1 by omega);rw[if_neg omK,if_neg omK,Q80 omK]
  have hne:(((enc a).length:Int) != ((enc b).length:Int))=true:=by simp;omega
  refine Ca.bO (n:=90) ?_;rw[av rfl (k91:E0.fn _=_) rfl];rw[<-hc];simp only[LD];generalize LL (enc a)=as',LL (enc b)=bs,(enc a).length=m1,(enc b).length=m2 at*;simp -implicitDefEqProofs[f91,uY,Ef,hne,hw,hs]
def wpB:aG:=f90.body.r.r.r.l.r.bl.lp
def wpS (a b o:List Nat)(k s:Nat)(t:FV):St:=(st0 [.d (LD a),.d (LD b),.u,dS k,.d (.v (.int .u64 s)),.d (.v (.int .i64 k)),.u,t] (dU k (LL o)))
theorem PT (a b o:List Nat)(k s:Nat)(hc:¬ k<=max a.length b.length):EX E0 60 wpB (wpS a b o k s .u)=some (.exit 0,wpS a b o k s (.d (.v (.bool false)))):=by
 have uY:(LL a).length=a.length:=by simp[LL]
 have Ef:(LL b).length=b.length:=by simp[LL]
 have hmax:(if a.length<b.length then(b.length:Int) else(a.length:Int))=((max a.length b.length:Nat):Int):=by split<;>omega
 unfold wpS;simp only[LD];generalize dS k=ov,dU k (LL o)=oh,LL a=as',LL b=bs,max a.length b.length=mm at*;simp -implicitDefEqProofs[wpB,f90,uY,Ef,hmax,hc]
theorem IW (a b o:List Nat)(k s:Nat)(hk:k<=1000000000)(la:a.length<=1000000000)(lb:b.length<=1000000000)(ha:bV a)(hb:bV b)(ho:o.length=k)(hs:s<4294967296)(hc:k<=max a.length b.length) :
  EX E0 80 wpB (wpS a b o k s .u)=some (.norm,wpS a b (o++[(bF a k+bF b k+s) % 4294967296]) (k+1) ((bF a k+bF b k+s) / 4294967296) .u):=by
 have h1:=fun m=>wH m a la k hk ha
 have h2:=fun m=>wH m b lb k hk hb
 have xa:=di ha k;have xb:=di hb k;have uY:(LL a).length=a.length:=by simp[LL]
 have Ef:(LL b).length=b.length:=by simp[LL]
 have hmax:(if a.length<b.length then(b.length:Int) else(a.length:Int))=((max a.length b.length:Nat):Int):=by split<;>omega
 simp only[LD]at h1 h2;have bz:ah .i64 ((k:Int)+1)=(k:Int)+1:=wrap_i64 omK;generalize bF a k=x,bF b k=y at*;have w1:ah .u64 ((x:Int)+(y:Int))=(x:Int)+(y:Int):=wrap_u64 omK;have w2:ah .u64 ((x:Int)+(y:Int)+(s:Int))=(x:Int)+(y:Int)+(s:Int):=wrap_u64 omK;have w3:ah .u32 ((x:Int)+(y:Int)+(s:Int))=((x:Int)+(y:Int)+(s:Int)) % 4294967296:=dH _;have w4:Int.fdiv ((x:Int)+(y:Int)+(s:Int)) 4294967296=((x:Int)+(y:Int)+(s:Int)) / 4294967296:=Qm1 _ omK;have RY:LL (o++[(x+y+s) % 4294967296])=LL o++[.v (.int .u32 (((x:Int)+(y:Int)+(s:Int)) % 4294967296))]:=by simp[LL]
 have hol:(LL o).length=k:=by simp[LL,ho]
 have hv1:dS (k+1)=.ls (.loc 0) k 1 0 (k+1):=by simp[dS]
 have Ei:∀ l,dU (k+1) l=[.row k 1 l]:=by intro l;simp[dU]
 have hm1:(k+1)*4<=most:=by simp[most];omega
 have hm2:k+1<=most:=by simp[most];omega
 have htk:(LL o).take k=LL o:=Qg0 omK;have hk1:((k+1:Nat):Int)=(k:Int)+1:=by omega
 have hs1:(((x+y+s) / 4294967296:Nat):Int)=((x:Int)+(y:Int)+(s:Int)) / 4294967296:=by omega
 unfold wpS;rw[RY,hv1,Ei,hk1,hs1]
 by_cases hk0:k=0
 ·have hv:dS k=.d (.n 1):=by simp[dS,hk0]
  have hh:∀ l,dU k l=[]:=by intro l;simp[dU,hk0]
  have ho0:o=[]:=Qo0 omK;have hLo:LL o=[]:=by rw[ho0];rfl
  have hm3:1*4<=most:=by simp[most]
  have hm4:1<=most:=by simp[most]
  have hvk:FV.ls (.loc 0) 0 1 0 1=FV.ls (.loc 0) k 1 0 (k+1):=by rw[hk0]
  have hhk:∀ l,ae.row 0 1 l=ae.row k 1 l:=by intro l;rw[hk0]
  rw[hv,hh,hLo,<-hvk,<-hhk];simp only[LD];generalize LL a=as',LL b=bs,max a.length b.length=mm at*;simp -implicitDefEqProofs[IntKind.bits,wpB,f90,uY,Ef,hmax,hc,h1,h2,bz,w1,w2,w3,w4,hm4,most]
 ·have hv:dS k=.ls (.loc 0) (k-1) 1 0 k:=by simp[dS,hk0]
  have hh:∀ l,dU k l=[.row (k-1) 1 l]:=by intro l;simp[dU,hk0]
  have hk2:k-1+1=k:=by omega
  rw[hv,hh];simp only[LD];generalize LL a=as',LL b=bs,max a.length b.length=mm at*;simp -implicitDefEqProofs[IntKind.bits,wpB,f90,uY,Ef,hmax,hc,h1,h2,bz,w1,w2,w3,w4,hm1,hm2,hol,htk,hk2]
theorem Lx (a b:List Nat)(la:a.length<=100000000)(lb:b.length<=100000000)(ha:bV a)(hb:bV b) :
  ∃ r,Ex E0 (.loop wpB) (wpS a b [] 0 0 .u) r/\∃ o s,bV o/\val o=val a+val b/\o.length=max a.length b.length+1/\r=(.exit 0,wpS a b o o.length s (.d (.v (.bool false)))):=by
 refine Ex.inv (S:=fun t:List Nat × Nat × Nat=>wpS a b t.1 t.2.1 t.2.2 .u) (fun t=>max a.length b.length+2-t.2.1) (plI a b) _ ?_ ([],0,0) ?_
 ·rintro⟨o,k,s⟩ ⟨h1,h2,h3,h4,h5,h6⟩;simp only at h1 h2 h3 h4 h5 h6;have xa:=di ha k;have xb:=di hb k
  by_cases hc:k<=max a.length b.length
  ·have hr:=IW a b o k s omK omK omK ha hb h1 h4 hc;refine .inl ⟨(o++[(bF a k+bF b k+s) % 4294967296],k+1,(bF a k+bF b k+s) / 4294967296),Ex.of hr,by simp only;omega,?_,?_,?_,?_,?_,?_⟩
   ·simp[h1]
   ·simp only;omega
   ·intro he;simp only at he ⊢;have e1:bF a k=0:=by unfold bF;rw[Qn2 omK];rfl
    have e2:bF b k=0:=by unfold bF;rw[Qn2 omK];rfl
    rw[e1,e2];omega
   ·simp only;omega
   ·exact iD h5 (fun x hx=>by simp at hx;subst hx;exact Qv0 _ omK)
   ·simp only;rw[val_append,h1,Ql1,<-h6,iZ a k,iZ b k];have hv:val [(bF a k+bF b k+s) % 4294967296]=(bF a k+bF b k+s) % 4294967296:=by simp[val]
    rw[hv];exact EH omK
  ·have hr:=PT a b o k s hc;refine .inr ⟨_,Ex.of hr,(by simp),o,s,h5,?_,by omega,by rw[h1]⟩;rw[iE omK,iE omK]at h6;have:s=0:=h3 omK;subst this;simpa using h6
 ·refine⟨rfl,by simp,?_,by simp,?_,?_⟩
  ·simp
  ·intro x hx;cases hx
  ·simp[val]
theorem BC (a b:List Nat)(la:a.length<=100000000)(lb:b.length<=100000000)(ha:bV a)(hb:bV b) :
  Ca E0 90 [.d (LD a),.d (LD b)] (.d (LD (enc (val a+val b))),none):=by
 obtain⟨r,hl,o,s,ho,hv,hol,rfl⟩:=Lx a b la lb ha hb;obtain⟨n0,hc⟩:=(wG o omK).get;rw[df ho,hv]at hc;have hlo:(LL o).length=o.length:=by simp[LL]
 have htk:(LL o).take o.length=LL o:=Qg0 omK;have hv1:dS o.length=.ls (.loc 0) (o.length-1) 1 0 o.length:=by unfold dS;rw[if_neg omK]
 have Ei:∀ l,dU o.length l=[.row (o.length-1) 1 l]:=by intro l;unfold dU;rw[if_neg omK]
 generalize enc (val a+val b)=res at*;refine Ca.body (o:=.ret) (st1:=(st0 [.u,.u,.d (LD res),.u,.u,.u,.u,.u] [.gT (o.length-1) 1 (LL o)])) rfl (k90:E0.fn _=_) rfl ?_ (by intro id h;cases h) ?_
 ·show Ex E0 (.seq f90.body.l (.seq f90.body.r.l (.seq f90.body.r.r.l (.seq (.seq f90.body.r.r.r.l.l (.block 0 (.loop wpB))) f90.body.r.r.r.r)))) _ _;refine Ex.seq (st1:=(st0 [.d (LD a),.d (LD b),.u,.u,.u,.u,.u,.u] [])) (Ex.of (n:=40) ?_)
   (Ex.seq (st1:=(st0 [.d (LD a),.d (LD b),.u,.d (.n 1),.u,.u,.u,.u] [])) (Ex.of (n:=40) ?_)
   (Ex.seq (st1:=(st0 [.d (LD a),.d (LD b),.u,.d (.n 1),.d (.v (.int .u64 0)),.u,.u,.u] [])) (Ex.of (n:=40) ?_)
   (Ex.seq (Ex.seq (st1:=wpS a b [] 0 0 .u) (Ex.of (n:=40) ?_) hl.block) (Ex.of (n:=n0+40) ?_))))
  ·simp -implicitDefEqProofs[f90]
  ·simp -implicitDefEqProofs[f90]
  ·simp -implicitDefEqProofs[f90]
  ·simp -implicitDefEqProofs[wpS,dS,dU,f90]
  ·unfold wpS;clear hl;simp only[LD]at hc ⊢;rw[hv1,Ei];generalize o.length-1=m,LL o=es at*;generalize o.length=l at*;simp -implicitDefEqProofs[ae.view,f90,hlo,htk,hc]
 ·simp -implicitDefEqProofs[f90,LD]
def wmB:aG:=f92.body.r.r.r.l.r.bl.lp
def R3 (a b o:List Nat)(k s:Nat)(t:FV):St:=(st0 [.d (LD a),.d (LD b),.u,dS k,.d (.v (.int .u64 s)),.d (.v (.int .i64 k)),.u,t] (dU k (LL o)))
theorem LA (a b o:List Nat)(k s:Nat)(hc:¬ k<a.length):EX E0 60 wmB (R3 a b o k s .u)=some (.exit 0,R3 a b o k s (.d (.v (.bool false)))):=by
 have uY:(LL a).length=a.length:=by simp[LL]
 unfold R3;simp only[LD];generalize dS k=ov,dU k (LL o)=oh,LL a=as',LL b=bs at*;simp -implicitDefEqProofs[wmB,f92,uY,hc]
theorem Gq (a b o:List Nat)(k s s' d:Nat)(hk:k<a.length)(la:a.length<=1000000000)(lb:b.length<=1000000000)(ha:bV a)(hb:bV b)(ho:o.length=k)(hs:s<=1)
  (hd:d<4294967296) (hs':s'<=1) (hdig:bF a k+4294967296*s'=d+bF b k+s) :
  EX E0 80 wmB (R3 a b o k s .u)=some (.norm,R3 a b (o++[d]) (k+1) s' .u):=by
 have h1:=fun m=>wH m a la k omK ha
 have h2:=fun m=>wH m b lb k omK hb
 have xa:=di ha k;have xb:=di hb k;have uY:(LL a).length=a.length:=by simp[LL]
 simp only[LD]at h1 h2;have bz:ah .i64 ((k:Int)+1)=(k:Int)+1:=wrap_i64 omK;generalize bF a k=x,bF b k=y at*;have w1:ah .u64 ((x:Int)+4294967296)=(x:Int)+4294967296:=wrap_u64 omK;have w2:ah .u64 ((x:Int)+4294967296-(y:Int))=(x:Int)+4294967296-(y:Int):=wrap_u64 omK;obtain⟨Z,hZ⟩:∃ Z:Nat,(Z:Int)=(x:Int)+4294967296-(y:Int)-(s:Int):=⟨x+4294967296-y-s,by omega⟩
 have w3:ah .u64 ((x:Int)+4294967296-(y:Int)-(s:Int))=(Z:Int):=by rw[wrap_u64 omK];omega
 have w4:ah .u32 (Z:Int)=(d:Int):=by rw[dH];omega
 have w5:Int.fdiv (Z:Int) 4294967296=1-(s':Int):=by rw[Qm1 _ omK];omega
 have w6:ah .u64 (1-(1-(s':Int)))=(s':Int):=by rw[wrap_u64 omK];omega
 clear hZ;have RY:LL (o++[d])=LL o++[.v (.int .u32 (d:Int))]:=by simp[LL]
 have hol:(LL o).length=k:=by simp[LL,ho]
 have hv1:dS (k+1)=.ls (.loc 0) k 1 0 (k+1):=by simp[dS]
 have Ei:∀ l,dU (k+1) l=[.row k 1 l]:=by intro l;simp[dU]
 have hm1:(k+1)*4<=most:=by simp[most];omega
 have hm2:k+1<=most:=by simp[most];omega
 have htk:(LL o).take k=LL o:=Qg0 omK;have hk1:((k+1:Nat):Int)=(k:Int)+1:=by omega
 unfold R3;rw[RY,hv1,Ei,hk1]
 by_cases hk0:k=0
 ·have hv:dS k=.d (.n 1):=by simp[dS,hk0]
  have hh:∀ l,dU k l=[]:=by intro l;simp[dU,hk0]
  have ho0:o=[]:=Qo0 omK;have hLo:LL o=[]:=by rw[ho0];rfl
  have hm3:1*4<=most:=by simp[most]
  have hm4:1<=most:=by simp[most]
  have hvk:FV.ls (.loc 0) 0 1 0 1=FV.ls (.loc 0) k 1 0 (k+1):=by rw[hk0]
  have hhk:∀ l,ae.row 0 1 l=ae.row k 1 l:=by intro l;rw[hk0]
  rw[hv,hh,hLo,<-hvk,<-hhk];simp only[LD];generalize LL a=as',LL b=bs,a.length=mm at*;simp -implicitDefEqProofs[IntKind.bits,wmB,f92,uY,hk,h1,h2,bz,w1,w2,w3,w4,w5,w6,hm4,most]
 ·have hv:dS k=.ls (.loc 0) (k-1) 1 0 k:=by simp[dS,hk0]
  have hh:∀ l,dU k l=[.row (k-1) 1 l]:=by intro l;simp[dU,hk0]
  have hk2:k-1+1=k:=by omega
  rw[hv,hh];simp only[LD];generalize LL a=as',LL b=bs,a.length=mm at*;simp -implicitDefEqProofs[IntKind.bits,wmB,f92,uY,hk,h1,h2,bz,w1,w2,w3,w4,w5,w6,hm1,hm2,hol,htk,hk2]
theorem IX (a b:List Nat)(la:a.length<=100000000)(lb:b.length<=a.length)(ha:bV a)(hb:bV b)(hab:val b<=val a) :
  ∃ r,Ex E0 (.loop wmB) (R3 a b [] 0 0 .u) r/\∃ o,bV o/\val o=val a-val b/\o.length=a.length/\r=(.exit 0,R3 a b o a.length 0 (.d (.v (.bool false)))):=by
 refine Ex.inv (S:=fun t:List Nat × Nat=>R3 a b t.1 t.1.length t.2 .u) (fun t=>a.length-t.1.length) (miI a b) _ ?_ ([],0) ?_
 ·rintro⟨o,s⟩ ⟨h1,h2,h3,h4⟩;simp only at h1 h2 h3 h4;have xa:=di ha o.length;have xb:=di hb o.length
  by_cases hk:o.length<a.length
  ·obtain⟨d,s',hd,hs',hdig⟩:∃ d s',d<4294967296/\s'<=1/\bF a o.length+4294967296*s'=d+bF b o.length+s:=by
    by_cases hc:bF b o.length+s<=bF a o.length
    ·exact⟨bF a o.length-(bF b o.length+s),0,by omega,by omega,by omega⟩
    ·exact⟨bF a o.length+4294967296-(bF b o.length+s),1,by omega,by omega,by omega⟩
   have hr:=Gq a b o o.length s s' d hk omK omK ha hb rfl h2 hd hs' hdig;refine .inl ⟨(o++[d],s'),?_,?_,?_,?_,?_,?_⟩
   ·simp only[Qb0,Qe2,Qr2];exact Ex.of hr
   ·simp only[Qb0,Qe2,Qr2];omega
   ·simp only[Qb0,Qe2,Qr2];omega
   ·exact hs'
   ·exact iD h3 (fun x hx=>by simp at hx;subst hx;exact hd)
   ·simp only[Qb0,Qe2,Qr2,Qx1];rw[dZ,dZ,val_append,Ql1];have hv:val [d]=d:=by simp[val]
    rw[hv];exact Bf h4 hdig
  ·have he:o.length=a.length:=by omega
   rw[he,fH (Qd1 _),fH lb]at h4;have hlt:=nN h3;rw[he]at hlt;have hs0:s=0:=by
    rcases Qg1 s 1 with h|h
    ·omega
    ·have:s=1:=by omega
     subst this;generalize 4294967296 ^ a.length=p at*;omega
   subst hs0;refine .inr ⟨_,?_,?_,o,h3,by omega,he,rfl⟩
   ·simp only[he];exact Ex.of (LA a b o a.length 0 omK)
   ·simp
 ·refine⟨by simp,by simp,?_,?_⟩
  ·intro x hx;cases hx
  ·simp[val,bY]
theorem EN (a b:List Nat)(la:a.length<=100000000)(lb:b.length<=a.length)(ha:bV a)(hb:bV b)(hab:val b<=val a) :
  Ca E0 92 [.d (LD a),.d (LD b)] (.d (LD (enc (val a-val b))),none):=by
 obtain⟨r,hl,o,ho,hv,hol,rfl⟩:=IX a b la lb ha hb hab;obtain⟨n0,hc⟩:=(wG o omK).get;rw[df ho,hv]at hc;have hlo:(LL o).length=a.length:=by simp[LL,hol]
 have htk:(LL o).take a.length=LL o:=Qg0 omK;generalize enc (val a-val b)=res at*;refine Ca.body (o:=.ret) (st1:=(st0 [.u,.u,.d (LD res),.u,.u,.u,.u,.u] (if a.length=0 then [] else [.gT (a.length-1) 1 (LL o)]))) rfl (k92:E0.fn _=_) rfl ?_ (by intro id h;cases h) ?_
 ·show Ex E0 (.seq f92.body.l (.seq f92.body.r.l (.seq f92.body.r.r.l (.seq (.seq f92.body.r.r.r.l.l (.block 0 (.loop wmB))) f92.body.r.r.r.r)))) _ _;refine Ex.seq (st1:=(st0 [.d (LD a),.d (LD b),.u,.u,.u,.u,.u,.u] [])) (Ex.of (n:=40) ?_)
   (Ex.seq (st1:=(st0 [.d (LD a),.d (LD b),.u,.d (.n 1),.u,.u,.u,.u] [])) (Ex.of (n:=40) ?_)
   (Ex.seq (st1:=(st0 [.d (LD a),.d (LD b),.u,.d (.n 1),.d (.v (.int .u64 0)),.u,.u,.u] [])) (Ex.of (n:=40) ?_)
   (Ex.seq (Ex.seq (st1:=R3 a b [] 0 0 .u) (Ex.of (n:=40) ?_) hl.block) (Ex.of (n:=n0+40) ?_))))
  ·simp -implicitDefEqProofs[f92]
  ·simp -implicitDefEqProofs[f92]
  ·simp -implicitDefEqProofs[f92]
  ·simp -implicitDefEqProofs[R3,dS,dU,f92]
  ·unfold R3;clear hl
   by_cases h0:a.length=0
   ·have hLo:LL o=[]:=Qo0 omK;have ho0:o=[]:=Qo0 omK;have hv1:dS a.length=.d (.n 1):=by unfold dS;rw[if_pos h0]
    have Ei:∀ l,dU a.length l=[]:=by intro l;unfold dU;rw[if_pos h0]
    rw[if_pos h0,hv1,Ei];rw[ho0]at hc;simp only[LD,LL,Qc0]at hc ⊢;generalize List.map (fun(x:Nat)=>D.v (Value.int IntKind.u32 (x:Int))) res=rs at*;simp -implicitDefEqProofs[f92,hc]
   ·have hv1:dS a.length=.ls (.loc 0) (a.length-1) 1 0 a.length:=by unfold dS;rw[if_neg h0]
    have Ei:∀ l,dU a.length l=[.row (a.length-1) 1 l]:=by intro l;unfold dU;rw[if_neg h0]
    rw[if_neg h0,hv1,Ei];simp only[LD]at hc ⊢;generalize a.length-1=m,LL o=es at*;generalize a.length=l at*;simp -implicitDefEqProofs[ae.view,f92,hlo,htk,hc]
 ·simp -implicitDefEqProofs[f92,LD]
def IY:aG:=f87.body.r.r.l.r.bl.lp
def wjB:aG:=IY.r.l.bl.r.l.r.bl.lp
def Tt (a b:List Nat)(es:List D)(n i c k:Nat)(t:FV):St:=(st0 [.d (LD a),.d (LD b),.u,.ls (.loc 0) 0 1 0 n,.d (.v (.int .i64 i)),.d (.v (.int .u64 c)),.d (.v (.int .i64 k)),.u,.u,t] [.row 0 1 es])
theorem abS (a b:List Nat)(es:List D)(n i c:Nat):EX E0 60 wjB (Tt a b es n i c b.length .u)=some (.exit 2,Tt a b es n i c b.length (.d (.v (.bool false)))):=by
 have Ef:(LL b).length=b.length:=by simp[LL]
 unfold Tt;simp only[LD];generalize LL a=as',LL b=bs,b.length=lb at*;simp -implicitDefEqProofs[wjB,IY,f87,Ef]
theorem Tu (a b:List Nat)(es:List D)(n i c k x y p:Nat)(hx:a[i]?=some x)(hy:b[k]?=some y)(hp:es[i+k]?=some (.v (.int .u32 (p:Int))))(hn:es.length=n)
  (hxl:x<4294967296) (hyl:y<4294967296) (hpl:p<4294967296) (hcl:c<4294967296) (hi:i<=1000000000) (hk:k<=1000000000) :
  EX E0 90 wjB (Tt a b es n i c k .u)=some (.norm,Tt a b (es.set (i+k) (.v (.int .u32 (((x*y+p+c) % 4294967296:Nat):Int)))) n i ((x*y+p+c) / 4294967296) (k+1) .u):=by
 have hxa:(LL a)[i]?=some (.v (.int .u32 (x:Int))):=by simp[LL,hx]
 have hyb:(LL b)[k]?=some (.v (.int .u32 (y:Int))):=by simp[LL,hy]
 have ha:i<(LL a).length:=by simpa[LL] using(bD hx)
 have hb:k<(LL b).length:=by simpa[LL] using(bD hy)
 have hpn:i+k<n:=by rw[<-hn];exact(bD hp)
 have bz:ah .i64 ((k:Int)+1)=(k:Int)+1:=wrap_i64 omK;have hk1:((k+1:Nat):Int)=(k:Int)+1:=by omega
 have hik:ah .i64 ((i:Int)+(k:Int))=((i+k:Nat):Int):=by rw[wrap_i64 omK];omega
 have w1:ah .u64 (x:Int)=(x:Int):=wrap_u64 omK;have w2:ah .u64 (y:Int)=(y:Int):=wrap_u64 omK;have w3:ah .u64 (p:Int)=(p:Int):=wrap_u64 omK;have hm:x*y<=4294967295*4294967295:=Q72 omK omK;have hxy:(x:Int)*(y:Int)=((x*y:Nat):Int):=by simp
 obtain⟨M,hM⟩:∃ M,M=x*y:=⟨_,rfl⟩
 rw[<-hM]at hxy hm ⊢;have w4:ah .u64 ((x:Int)*(y:Int))=(M:Int):=by rw[hxy];exact wrap_u64 omK
 have w5:ah .u64 ((M:Int)+(p:Int))=((M+p:Nat):Int):=by rw[wrap_u64 omK];omega
 have w6:ah .u64 (((M+p:Nat):Int)+(c:Int))=((M+p+c:Nat):Int):=by rw[wrap_u64 omK];omega
 obtain⟨T,hT⟩:∃ T,T=M+p+c:=⟨_,rfl⟩
 rw[<-hT]at w6 ⊢;have w7:ah .u32 (T:Int)=((T % 4294967296:Nat):Int):=by rw[dH];omega
 have w8:Int.fdiv (T:Int) 4294967296=((T / 4294967296:Nat):Int):=by rw[Qm1 _ omK];omega
 clear hT hM hxy hm;unfold Tt;rw[hk1];generalize T % 4294967296=d,T / 4294967296=c' at*;simp only[LD];generalize LL a=as',LL b=bs,i+k=j,M+p=Mp at*;have i1:=idx hxa;have i2:=idx hyb;have i3:=idx hp;have hlt:j<es.length:=by omega
 simp -implicitDefEqProofs[IntKind.bits,wjB,IY,f87,ha,hb,hxa,hyb,hp,i1,i2,i3,hpn,hn,bz,hik,w1,w2,w3,w4,w5,w6,w7,w8]
theorem PU (P:List Nat)(m j d:Nat)(hj:j<P.length):(LL (row0 P m)).set j (.v (.int .u32 (d:Int)))=LL (row0 (P.set j d) m):=by
 simp only[LL,row0,Qq0];rw[Xf0 _ _ (by simpa using hj),Qz2]
theorem Tv (P:List Nat)(m j:Nat)(hj:j<P.length):(LL (row0 P m))[j]?=some (.v (.int .u32 ((bF P j:Nat):Int))):=by
 simp only[LL,row0,Qq0];rw[Qa1 (by simpa using hj)];simp[bF,Qa0 hj]
theorem Yg {vP vP' Pj p d c c' x y V vb B:Nat}(h1:vP'+Pj*p=vP+Pj*d)(h2:x*y+p+c=d+B*c')(h3:vP+Pj*c=V):vP'+Pj*B*c'=V+Pj*(x*y):=by
 have:Pj*(x*y)+Pj*p+Pj*c=Pj*d+Pj*B*c':=by rw[Q61,<-Xc0,<-Xc0,h2,Xc0]
 omega
theorem Yh (a b P:List Nat)(m i x:Nat)(hx:a[i]?=some x)(la:a.length<=100000000)(lb:b.length<=100000000)(ha:bV a)(hb:bV b)(hP:bV P)(hl:P.length=i+b.length)(hv:val P=bY a i*val b) :
  ∃ r,Ex E0 (.loop wjB) (Tt a b (LL (row0 P m)) (i+b.length+m) i 0 0 .u) r /\
   ∃ Q c,bV Q/\Q.length=i+b.length/\c<4294967296/\val Q+4294967296 ^ (i+b.length)*c=bY a (i+1)*val b/\r=(.exit 2,Tt a b (LL (row0 Q m)) (i+b.length+m) i c b.length (.d (.v (.bool false)))):=by
 have hil:i<a.length:=(bD hx)
 have hxl:x<4294967296:=ha _ (Qa2 hx);have hxe:bF a i=x:=by simp[bF,hx]
 refine Ex.inv (S:=fun t:List Nat × Nat × Nat=>Tt a b (LL (row0 t.1 m)) (i+b.length+m) i t.2.1 t.2.2 .u) (fun t=>b.length-t.2.2)
  (fun t=>bV t.1/\t.1.length=i+b.length/\t.2.1<4294967296/\t.2.2<=b.length/\val t.1+4294967296 ^ (i+t.2.2)*t.2.1=val P+4294967296 ^ i*(x*bY b t.2.2)) _ ?_ (P,0,0) ?_
 ·rintro⟨Q,c,k⟩ ⟨h1,h2,h3,h4,h5⟩;simp only at h1 h2 h3 h4 h5
  by_cases hk:k<b.length
  ·have hy:b[k]?=some (b[k]'hk):=Qa0 hk;have hye:bF b k=b[k]'hk:=by simp[bF,hy]
   have hyl:=hb _ (Qi2 hk);generalize b[k]'hk=y at*;have hpl:bF Q (i+k)<4294967296:=di h1 _;have hr:=Tu a b (LL (row0 Q m)) (i+b.length+m) i c k x y (bF Q (i+k)) hx hy (Tv Q m _ omK) (by rw[qY];omega) hxl hyl hpl h3 omK omK;rw[PU _ _ _ _ omK]at hr;have hm:x*y<=4294967295*4294967295:=Q72 omK omK;refine .inl ⟨(Q.set (i+k) ((x*y+bF Q (i+k)+c) % 4294967296),(x*y+bF Q (i+k)+c) / 4294967296,k+1),Ex.of hr,by simp only;omega,Gb h1 (Qv0 _ omK),by simp[h2],by simp only;omega,by simp only;omega,?_⟩;simp only;have hs:=Aq Q (i+k) ((x*y+bF Q (i+k)+c) % 4294967296) omK;have:=Yg (vb:=0) hs (show x*y+bF Q (i+k)+c=(x*y+bF Q (i+k)+c) % 4294967296+4294967296*((x*y+bF Q (i+k)+c) / 4294967296) by omega) h5;rw[<-Qv2,Ql1,this,dZ,hye,Xc0,Xc0,<-Qv2]
   congr 1
   rw[Qx0];generalize 4294967296 ^ i=A;generalize 4294967296 ^ k=C;grind
  ·have hke:k=b.length:=by omega
   subst hke;rw[fH (Qd1 _)]at h5;refine .inr ⟨_,Ex.of (abS a b (LL (row0 Q m)) (i+b.length+m) i c),by simp,Q,c,h1,h2,h3,?_,rfl⟩;rw[h5,hv,dZ,hxe,Qq1]
   congr 1
   rw[Q61]
 ·refine⟨hP,hl,by simp,by simp,?_⟩;simp[bY,val]
def KY (a b:List Nat)(es:List D)(n i:Nat)(t:FV):St:=(st0 [.d (LD a),.d (LD b),.u,.ls (.loc 0) 0 1 0 n,.d (.v (.int .i64 i)),.u,.u,.u,t,.u] [.row 0 1 es])
theorem abT (a b:List Nat)(es:List D)(n:Nat):EX E0 60 IY (KY a b es n a.length .u)=some (.exit 0,KY a b es n a.length (.d (.v (.bool false)))):=by
 have uY:(LL a).length=a.length:=by simp[LL]
 unfold KY;simp only[LD];generalize LL a=as',LL b=bs,a.length=la at*;simp -implicitDefEqProofs[IY,f87,uY]
theorem Yi (a b:List Nat)(la:a.length<=100000000)(lb:b.length<=100000000)(ha:bV a)(hb:bV b) :
  ∃ r,Ex E0 (.loop IY) (KY a b (LL (row0 [] (a.length+b.length))) (a.length+b.length) 0 .u) r /\
   ∃ O,bV O/\O.length=a.length+b.length/\val O=val a*val b/\r=(.exit 0,KY a b (LL O) (a.length+b.length) a.length (.d (.v (.bool false)))):=by
 have e:LL (row0 [] (a.length+b.length))=LL (row0 (List.replicate b.length 0) (a.length-0)):=by
  simp only[row0,Qy0,Nat.sub_zero];rw[List.replicate_append_replicate,Xs2]
 rw[e];refine Ex.inv (S:=fun t:List Nat × Nat=>KY a b (LL (row0 t.1 (a.length-t.2))) (a.length+b.length) t.2 .u) (fun t=>a.length-t.2)
  (fun t=>t.2<=a.length/\t.1.length=t.2+b.length/\bV t.1/\val t.1=bY a t.2*val b) _ ?_ (List.replicate b.length 0,0) ?_
 ·rintro⟨P,i⟩ ⟨h1,h2,h3,h4⟩;simp only at h1 h2 h3 h4
  by_cases hi:i<a.length
  ·obtain⟨m,hm⟩:∃ m,a.length-i=m+1:=⟨a.length-i-1,by omega⟩
   have hx:a[i]?=some (a[i]'hi):=Qa0 hi;obtain⟨r,hr,Q,c,g1,g2,g3,g4,rfl⟩:=Yh a b P (m+1) i _ hx la lb ha hb h3 h2 h4;rw[show i+b.length+(m+1)=a.length+b.length by omega]at hr;refine .inl ⟨(Q++[c],i+1),?_,by simp only;omega,by simp only;omega,by simp[g2];omega,iD g1 (fun y hy=>by simp at hy;subst hy;exact g3),?_⟩
   ·simp only[hm,show a.length-(i+1)=m by omega];have uY:(LL a).length=a.length:=by simp[LL]
    have Ef:(LL b).length=b.length:=by simp[LL]
    have bz:ah .i64 ((i:Int)+1)=(i:Int)+1:=wrap_i64 omK;have hk1:((i+1:Nat):Int)=(i:Int)+1:=by omega
    have hib:ah .i64 ((i:Int)+(b.length:Int))=((i+b.length:Nat):Int):=by rw[wrap_i64 omK];omega
    have w1:ah .u32 (c:Int)=(c:Int):=wrap_u32 omK;have hz:=NT Q m;have hset:=Ir Q m c;rw[g2]at hz hset;have hle:(LL (row0 Q (m+1))).length=a.length+b.length:=by rw[qY];omega
    have hlt:i+b.length<a.length+b.length:=by omega
    rw[<-hset];clear hset;show Ex E0 (.seq IY.l (.seq (.block 1 (.seq IY.r.l.bl.l (.seq (.seq IY.r.l.bl.r.l.l (.block 2 (.loop wjB))) IY.r.l.bl.r.r))) IY.r.r)) _ _;refine Ex.seq (st1:=KY a b (LL (row0 P (m+1))) (a.length+b.length) i (.d (.v (.bool true)))) (Ex.of (n:=40) ?_)
     (Ex.seq (st1:=KY a b ((LL (row0 Q (m+1))).set (i+b.length) (.v (.int .u32 (c:Int)))) (a.length+b.length) i .u)
      (Ex.gm (Ex.seq (st1:={KY a b (LL (row0 P (m+1))) (a.length+b.length) i .u with vars:=[.d (LD a),.d (LD b),.u,.ls (.loc 0) 0 1 0 (a.length+b.length),.d (.v (.int .i64 i)),.d (.v (.int .u64 0)),.u,.u,.u,.u]}) (Ex.of (n:=40) ?_)
       (Ex.seq (Ex.seq (Ex.of (n:=40) ?_) hr.block) (Ex.of (n:=40) ?_)))) (Ex.of (n:=40) ?_))
    ·unfold KY;simp only[LD];generalize LL a=as' at*;generalize LL b=bs at*;generalize LL (row0 P (m+1))=es at*;simp -implicitDefEqProofs[IY,f87,uY,hi]
    ·unfold KY;simp only[LD];generalize LL a=as' at*;generalize LL b=bs at*;generalize LL (row0 P (m+1))=es at*;simp -implicitDefEqProofs[IY,f87]
    ·unfold KY Tt;simp only[LD];generalize LL a=as' at*;generalize LL b=bs at*;generalize LL (row0 P (m+1))=es at*;simp -implicitDefEqProofs[IY,f87]
    ·unfold KY Tt;simp only[LD];generalize LL a=as' at*;generalize LL b=bs at*;generalize LL (row0 Q (m+1))=es at*;have hz2:=idx hz;generalize i+b.length=j at*;generalize b.length=lb' at*;generalize a.length+lb'=n at*;simp -implicitDefEqProofs[IY,f87,Ef,hib,hz,hz2,hle,hlt,w1]
    ·unfold KY;simp only[LD];rw[hk1];generalize LL a=as' at*;generalize LL b=bs at*;generalize List.set _ _ _=es at*;simp -implicitDefEqProofs[IY,f87,bz]
   ·simp only;rw[val_append,g2,<-g4];simp[val]
  ·have hi2:i=a.length:=by omega
   subst hi2;rw[fH (Qd1 _)]at h4;refine .inr ⟨_,?_,?_,P,h3,h2,h4,rfl⟩
   ·simp only[Xq0,EI];exact Ex.of (abT a b (LL P) (a.length+b.length))
   ·simp
 ·refine⟨by simp,by simp,?_,?_⟩
  ·intro x hx;have:=List.eq_of_mem_replicate hx;omega
  ·have:∀ m,val (List.replicate m 0)=0:=by
    intro m
    induction m with
    | zero=>rfl
    | succ m ih=>rw[Xk1,val,ih]
   simp[bY,val,this]
theorem PW (a b:List Nat)(la:a.length<=100000000)(lb:b.length<=100000000)(ha:bV a)(hb:bV b) :
  Ca E0 87 [.d (LD a),.d (LD b)] (.d (LD (enc (val a*val b))),none):=by
 obtain⟨r,hl,o,ho,hol,hv,rfl⟩:=Yi a b la lb ha hb;obtain⟨n0,hc⟩:=(wG o omK).get;rw[df ho,hv]at hc;have hlo:(LL o).length=a.length+b.length:=by simp[LL,hol]
 have uY:(LL a).length=a.length:=by simp[LL]
 have Ef:(LL b).length=b.length:=by simp[LL]
 have htk:(LL o).take (a.length+b.length)=LL o:=Qg0 omK;have hz:=wz (a.length+b.length);generalize enc (val a*val b)=res at*;refine Ca.body (o:=.ret) (st1:=(st0 [.u,.u,.d (LD res),.u,.u,.u,.u,.u,.u,.u] [.gT 0 1 (LL o)])) rfl (k87:E0.fn _=_) rfl ?_ (by intro id h;cases h) ?_
 ·show Ex E0 (.seq f87.body.l (.seq f87.body.r.l (.seq (.seq f87.body.r.r.l.l (.block 0 (.loop IY))) f87.body.r.r.r))) _ _;refine Ex.seq (st1:=(st0 [.d (LD a),.d (LD b),.u,.u,.u,.u,.u,.u,.u,.u] [])) (Ex.of (n:=40) ?_)
   (Ex.seq (st1:=(st0 [.d (LD a),.d (LD b),.u,.ls (.loc 0) 0 1 0 (a.length+b.length),.u,.u,.u,.u,.u,.u] [.row 0 1 (LL (row0 [] (a.length+b.length)))])) (Ex.of (n:=40) ?_)
   (Ex.seq (Ex.seq (Ex.of (n:=40) ?_) hl.block) (Ex.of (n:=n0+40) ?_)))
  ·simp -implicitDefEqProofs[f87]
  ·have hw:ah .i64 ((a.length:Int)+(b.length:Int))=((a.length+b.length:Nat):Int):=by rw[wrap_i64 omK];omega
   have hmb:a.length+b.length<=200000000:=by omega
   rw[hz];generalize a.length+b.length=m at*;have hm1:(m:Int)*4<=1099511627776:=by omega
   have hm2:(m:Int)<=1099511627776:=by omega
   simp -implicitDefEqProofs[f87,LD,uY,Ef,hw,hm1,hm2,most]
  ·unfold KY;simp -implicitDefEqProofs[f87,LD]
  ·unfold KY;simp only[LD]at hc ⊢;clear hl;generalize LL o=es,a.length+b.length=m at*;simp -implicitDefEqProofs[ae.view,f87,hlo,htk,hc]
 ·simp -implicitDefEqProofs[f87,LD]
theorem Yj {l:List Nat}(h:bV l)(n:Nat):bF l n=val l / 4294967296 ^ n % 4294967296:=by
 have h1:=yC l n;have h2:=nV h n;have h3:=iZ l n;have h4:=di h n;have h5:val l / 4294967296 ^ n=val (l.drop n):=by
  rw[h1,X01 _ _ (Qq2 omK),Xb0 h2,Qx1]
 rw[h5,h3];omega
theorem and1 {x:Nat}(hx:x<4294967296):nP .u32 (x:Int) 1=((x % 2:Nat):Int):=by
 rw[Az,<-cK]
 change ah .u32 ((BitVec.ofInt 32 (x:Int) &&& BitVec.ofInt 32 1).toNat:Int)=_
 rw[BitVec.ofInt_natCast];have e1:BitVec.ofInt 32 1=BitVec.ofNat 32 1:=by rfl
 rw[e1,BitVec.toNat_and,BitVec.toNat_ofNat,BitVec.toNat_ofNat,Qw1 omK,Qw1 omK,Nat.and_one_is_mod];exact wrap_u32 omK
theorem ahJ {s:Nat}(hs:s<32):Lc .u32 1 (s:Int)=((2 ^ s:Nat):Int):=by
 rw[Ap,<-cK];have h2:min ((s:Int).toNat) (IntKind.bits .u32)=s:=by simp[IntKind.bits];omega
 have h3:2 ^ s<4294967296:=by
  have:=X02 (a:=2) omK hs;simpa using this
 rw[h2,Int.one_mul];have e:((2:Int) ^ s)=((2 ^ s:Nat):Int):=by simp
 rw[e];generalize 2 ^ s=p at*;exact wrap_u32 omK
theorem or_bit {L s:Nat}(hL:L<4294967296)(hs:s<32)(h:L % 2 ^ (s+1)=0):Bj .u32 (L:Int) ((2 ^ s:Nat):Int)=((L+2 ^ s:Nat):Int)/\L+2 ^ s<4294967296:=by
 have h3:2 ^ s<2 ^ (s+1):=X02 omK omK;have e1:L=(L / 2 ^ (s+1)) <<< (s+1):=by
  rw[Nat.shiftLeft_eq];have:=Xs0 L (2 ^ (s+1));rw[h,Q70,Qj2]at this;exact this.symm
 have e2:L ||| 2 ^ s=L+2 ^ s:=by
  have:=Xo1 h3 (L / 2 ^ (s+1));rw[<-e1]at this;exact this.symm
 have hp:2 ^ s<4294967296:=by
  have:=X02 (a:=2) omK hs;simpa using this
 have hor:L ||| 2 ^ s<2 ^ 32:=Nat.or_lt_two_pow (by simpa using hL) (by simpa using hp);have hlt:L+2 ^ s<4294967296:=by rw[<-e2];simpa using hor
 refine⟨?_,hlt⟩;rw[yx,<-cK]
 change ah .u32 ((BitVec.ofInt 32 (L:Int) ||| BitVec.ofInt 32 ((2 ^ s:Nat):Int)).toNat:Int)=_
 rw[BitVec.ofInt_natCast,BitVec.ofInt_natCast,BitVec.toNat_or,BitVec.toNat_ofNat,BitVec.toNat_ofNat,Qw1 (by simpa using hL),Qw1 (by simpa using hp),e2];exact wrap_u32 omK
def EO:aG:=f171.body.r.r.r.l.r.bl.lp
def okr (rv:FV)(r:Nat):Prop:=rv=.d (LD (enc r))\/(r=0/\rv=.d (.n 1))
def Ej (a b:List Nat)(es:List D)(n:Nat)(rv:FV)(i:Int)(t t8 t9:FV):St:=(st0 [.d (LD a),.d (LD b),.u,.u,.ls (.loc 0) 0 1 0 n,rv,.d (.v (.int .i64 i)),t,t8,t9] [.row 0 1 es])
theorem abU (a b:List Nat)(es:List D)(n:Nat)(rv:FV):EX E0 60 EO (Ej a b es n rv (-1) .u .u .u)=some (.exit 0,Ej a b es n rv (-1) (.d (.v (.bool false))) .u .u):=by
 unfold Ej;simp only[LD];generalize LL a=as',LL b=bs at*;simp -implicitDefEqProofs[EO,f171]
theorem ae4 (a b:List Nat)(es:List D)(n:Nat)(rv:FV)(r:Nat)(i:Int)(h:okr rv r)(lr:sz r<=10000000) :
  Ex E0 EO.r.l.bl.l (Ej a b es n rv i (.d (.v (.bool true))) .u .u) (.norm,Ej a b es n (.d (LD (enc (2*r)))) i .u .u .u):=by
 unfold sz at lr;obtain⟨N,t⟩:=(BC (enc r) (enc r) omK omK (aS _) (aS _)).get;rw[aV,show r+r=2*r by omega]at t;refine Ex.of (n:=N+60) ?_;unfold Ej;rcases h with rfl|⟨rfl,rfl⟩
 ·simp only[LD]at t ⊢;generalize LL a=as',LL b=bs,LL (enc r)=rs,LL (enc (2*r))=rs2 at*;simp -implicitDefEqProofs[EO,f171,t]
 ·simp only[dx,LD,LL,Qc0,Nat.mul_zero]at t ⊢;generalize List.map (fun(x:Nat)=>D.v (Value.int IntKind.u32 (x:Int))) a=as' at*;generalize List.map (fun(x:Nat)=>D.v (Value.int IntKind.u32 (x:Int))) b=bs at*;simp -implicitDefEqProofs[EO,f171,t]
theorem ae5 (a b:List Nat)(es:List D)(n:Nat)(r i x:Nat)(ha:a[i / 32]?=some x)(hx:x<4294967296)(hi:i<=1000000000)(lr:sz r<=10000000) :
  ∃ t8,Ex E0 EO.r.l.bl.r.l (Ej a b es n (.d (LD (enc r))) i .u .u .u) (.norm,Ej a b es n (.d (LD (enc (r+x / 2 ^ (i % 32) % 2)))) i .u t8 .u):=by
 have hxa:(LL a)[i / 32]?=some (.v (.int .u32 (x:Int))):=by simp[LL,ha]
 have hla:i / 32<(LL a).length:=by simpa[LL] using(bD ha)
 have w1:Int.tdiv (i:Int) 32=((i / 32:Nat):Int):=by rw[Q62 omK];omega
 have w2:ah .i64 ((i / 32:Nat):Int)=((i / 32:Nat):Int):=wrap_i64 omK;have w3:Int.tmod (i:Int) 32=((i % 32:Nat):Int):=by rw[Xd1 omK];omega
 have w4:ah .u64 ((i % 32:Nat):Int)=((i % 32:Nat):Int):=wrap_u64 omK;have hs:i % 32<32:=Qv0 _ omK;generalize i % 32=s,i / 32=w at*;have w5:Int.fdiv (x:Int) (2 ^ (min s 32))=((x / 2 ^ s:Nat):Int):=by
  rw[show min s 32=s by omega,Qm1 _ (Int.pow_nonneg omK),Xy1];simp
 have hq:x / 2 ^ s<4294967296:=Xb1 (Xm1 _ _) hx;generalize x / 2 ^ s=y at*;have w6:=and1 hq;have hs0:¬ ((s:Int)<0):=by omega
 unfold sz at lr;have h2:y % 2=0\/y % 2=1:=by omega
 rcases h2 with h2|h2
 ·rw[h2]at w6 ⊢;refine⟨.d (.v (.bool false)),Ex.of (n:=60) ?_⟩;unfold Ej;simp only[LD,Q70];generalize LL a=as',LL b=bs,LL (enc r)=rs at*;have i1:=idx hxa;simp -implicitDefEqProofs[IntKind.bits,EO,f171,hla,hxa,i1,w1,w2,w3,w4,w5,w6,hs0]
 ·rw[h2]at w6 ⊢;obtain⟨N,t⟩:=(BC (enc r) [1] omK (by simp) (aS _) (by intro z hz;simp at hz;omega)).get;rw[aV,show val [1]=1 by simp[val]]at t;refine⟨.u,Ex.of (n:=N+60) ?_⟩;unfold Ej;simp only[LD,LL,Qd2,Qc0]at hxa hla t ⊢;generalize List.map (fun(x:Nat)=>D.v (Value.int IntKind.u32 (x:Int))) a=as' at*;generalize List.map (fun(x:Nat)=>D.v (Value.int IntKind.u32 (x:Int))) b=bs at*;generalize List.map (fun(x:Nat)=>D.v (Value.int IntKind.u32 (x:Int))) (enc r)=rs at*;generalize List.map (fun(x:Nat)=>D.v (Value.int IntKind.u32 (x:Int))) (enc (r+1))=rs2 at*;have i1:=idx hxa;simp only[Int.natCast_one]at t;simp -implicitDefEqProofs[IntKind.bits,EO,f171,hla,hxa,i1,w1,w2,w3,w4,w5,w6,hs0,t]
theorem ae6 (a:List Nat)(y:Nat)(Q:List Nat)(r i:Nat)(t8:FV)(hi:i<=1000000000)(lr:sz r<=10000000)(ly:sz y<=10000000)(hQ:bV Q)(hw:i / 32<Q.length)(hbit:bF Q (i / 32) % 2 ^ (i % 32+1)=0) :
  ∃ t9,Ex E0 EO.r.l.bl.r.r (Ej a (enc y) (LL Q) Q.length (.d (LD (enc r))) i .u t8 .u)
   (.norm,Ej a (enc y) (LL (if y<=r then Q.set (i / 32) (bF Q (i / 32)+2 ^ (i % 32)) else Q)) Q.length (.d (LD (enc (if y<=r then r-y else r)))) i .u .u t9):=by
 obtain⟨n1,t1⟩:=(Oc r y omK omK).any;have hs:i % 32<32:=Qv0 _ omK;have hL:=di hQ (i / 32);obtain⟨o1,o2⟩:=or_bit hL hs hbit;have hse:=ahJ hs;have w1:Int.tdiv (i:Int) 32=((i / 32:Nat):Int):=by rw[Q62 omK];omega
 have w2:ah .i64 ((i / 32:Nat):Int)=((i / 32:Nat):Int):=wrap_i64 omK;have w3:Int.tmod (i:Int) 32=((i % 32:Nat):Int):=by rw[Xd1 omK];omega
 have w4:ah .u64 ((i % 32:Nat):Int)=((i % 32:Nat):Int):=wrap_u64 omK;have hge:(LL Q)[i / 32]?=some (.v (.int .u32 ((bF Q (i / 32):Nat):Int))):=by simp[LL,bF,Qa0 hw]
 have hset:LL (Q.set (i / 32) (bF Q (i / 32)+2 ^ (i % 32)))=(LL Q).set (i / 32) (.v (.int .u32 ((bF Q (i / 32)+2 ^ (i % 32):Nat):Int))):=by simp[LL,Qz2]
 have hlen:(LL Q).length=Q.length:=by simp[LL]
 by_cases R4:y<=r
 ·have hc:(0:Int)<=dO r y:=by unfold dO;rw[if_neg omK];split<;>omega
  unfold sz at lr ly;obtain⟨n2,t2⟩:=(EN (enc r) (enc y) omK (bI R4) (aS _) (aS _) (by rw[aV,aV];exact R4)).any;rw[aV,aV]at t2;replace t1:=t1 (n1+n2) omK;replace t2:=t2 (n1+n2) omK;generalize n1+n2=N at*;rw[if_pos R4,if_pos R4,hset];refine⟨.u,Ex.of (n:=N+60) ?_⟩;unfold Ej;generalize bF Q (i / 32)+2 ^ (i % 32)=v at*;generalize 2 ^ (i % 32)=p at*;have hs0:¬ (((i % 32:Nat):Int)<0):=by omega
  generalize i % 32=s,bF Q (i / 32)=q0 at*;generalize i / 32=w,dO r y=cc at*;simp only[LD]at t1 t2 ⊢;generalize LL a=as',LL Q=es,LL (enc r)=rs,LL (enc y)=ys,LL (enc (r-y))=ms at*;have i1:=idx hge;generalize Q.length=l at*;simp -implicitDefEqProofs[IntKind.bits,EO,f171,hlen,hw,hge,i1,t1,t2,hc,w1,w2,w3,w4,o1,hse,hs0]
 ·have hc:dO r y=-1:=by unfold dO;rw[if_pos omK]
  rw[hc]at t1;replace t1:=t1 n1 omK;rw[if_neg R4,if_neg R4];refine⟨.d (.v (.bool false)),Ex.of (n:=n1+60) ?_⟩;unfold Ej;simp only[LD]at t1 ⊢;generalize LL a=as',LL Q=es,LL (enc r)=rs,LL (enc y)=ys at*;simp -implicitDefEqProofs[EO,f171,t1]
theorem wI (w:Nat):(2:Nat) ^ (32*w)=4294967296 ^ w:=by rw[X22]
theorem IZ (x j:Nat):x / 4294967296 ^ (j / 32) % 4294967296 / 2 ^ (j % 32) % 2=x / 2 ^ j % 2:=by
 have hj:j=32*(j / 32)+j % 32:=by omega
 have hs:j % 32<32:=Qv0 _ omK;have e:x / 2 ^ j=x / 4294967296 ^ (j / 32) / 2 ^ (j % 32):=by
  conv=>lhs;rw[hj,Qx0,wI,<-Qy2]
 rw[e];generalize x / 4294967296 ^ (j / 32)=z;generalize j % 32=s at*;have hp:0<2 ^ s:=Qq2 omK;have e2:4294967296=2 ^ s*(2*2 ^ (31-s)):=by
  rw[<-Q61,Qj2 (2 ^ s) 2,<-Nat.pow_succ',<-Qx0,show s+1+(31-s)=32 by omega]
 have e3:z / 2 ^ s=z % 4294967296 / 2 ^ s+2*(2 ^ (31-s)*(z / 4294967296)):=by
  conv=>lhs;rw[<-Nat.mod_add_div z 4294967296]
  have:4294967296*(z / 4294967296)=2 ^ s*(2*(2 ^ (31-s)*(z / 4294967296))):=by
   conv=>lhs;lhs;rw[e2]
   rw[Q61,Q61]
  rw[this,X01 _ _ hp]
 omega
theorem EP {Q:List Nat}(hQ:bV Q){q j:Nat}(hv:val Q=q*2 ^ (j+1)):bF Q (j / 32) % 2 ^ (j % 32+1)=0:=by
 have hs:j % 32<32:=Qv0 _ omK;have hj:j+1=32*(j / 32)+(j % 32+1):=by omega
 rw[Yj hQ,hv];have e:q*2 ^ (j+1)=4294967296 ^ (j / 32)*(q*2 ^ (j % 32+1)):=by
  conv=>lhs;rw[hj,Qx0,wI]
  generalize 4294967296 ^ (j / 32)=A;generalize 2 ^ (j % 32+1)=C;grind
 rw[e,Nat.mul_div_cancel_left _ (Qq2 omK)];have hd:2 ^ (j % 32+1) ∣ 4294967296:=by
  have:(4294967296:Nat)=2 ^ 32:=by rfl
  rw[this];exact Nat.pow_dvd_pow 2 omK
 rw[Nat.mod_mod_of_dvd _ hd,Nat.mul_mod_left]
theorem Yk {H y b:Nat}(hy:0<y)(hb:b<2) :
  (2*H+b) / y=(if y<=2*(H % y)+b then 2*(H / y)+1 else 2*(H / y))/\(2*H+b) % y=if y<=2*(H % y)+b then 2*(H % y)+b-y else 2*(H % y)+b:=by
 have h1:=Xs0 H y;have h2:=Qv0 H hy;generalize H % y=r,H / y=q at*;have e:2*H+b=y*(2*q)+(2*r+b):=by
  rw[<-h1];grind
 by_cases h:y<=2*r+b
 ·rw[if_pos h,if_pos h];have e2:2*H+b=y*(2*q+1)+(2*r+b-y):=by rw[e,Xc0,Xw1];omega
  have hlt:2*r+b-y<y:=by omega
  rw[e2,Xm0 hy,Xb0 hlt,X00,Qw1 hlt];exact⟨rfl,rfl⟩
 ·rw[if_neg h,if_neg h];have hlt:2*r+b<y:=by omega
  rw[e,Xm0 hy,Xb0 hlt,X00,Qw1 hlt];exact⟨rfl,rfl⟩
theorem Yl (x y:Nat)(hy:0<y)(lx:sz x<=1000000)(ly:sz y<=1000000) :
  ∃ r,Ex E0 (.loop EO) (Ej (enc x) (enc y) (LL (row0 [] (sz x))) (sz x) (.d (.n 1)) (((32*sz x:Nat):Int)-1) .u .u .u) r /\
   ∃ Q rv,bV Q/\Q.length=sz x/\val Q=x / y/\okr rv (x % y)/\r=(.exit 0,Ej (enc x) (enc y) (LL Q) (sz x) rv (-1) (.d (.v (.bool false))) .u .u):=by
 refine Ex.inv (S:=fun t:Nat × List Nat × FV=>Ej (enc x) (enc y) (LL t.2.1) (sz x) t.2.2 ((t.1:Int)-1) .u .u .u) (fun t=>t.1)
  (fun t=>t.1<=32*sz x/\bV t.2.1/\t.2.1.length=sz x/\val t.2.1=x / 2 ^ t.1 / y*2 ^ t.1/\okr t.2.2 (x / 2 ^ t.1 % y)) _ ?_ (32*sz x,row0 [] (sz x),.d (.n 1)) ?_
 ·rintro⟨j,Q,rv⟩ ⟨h1,h2,h3,h4,h5⟩;simp only at h1 h2 h3 h4 h5;cases j with
  | zero =>
   simp only[Nat.pow_zero,Xk0,Xw1]at h4 h5;refine .inr ⟨_,?_,by simp,Q,rv,h2,h3,h4,h5,rfl⟩;have:=abU (enc x) (enc y) (LL Q) (sz x) rv;simpa using Ex.of this
  | succ j =>
   have hw:j / 32<sz x:=by omega
   have hr2:x / 2 ^ (j+1) % y<y:=Qv0 _ hy;have hsr:sz (x / 2 ^ (j+1) % y)<=1000000:=Qc2 (oQ omK) ly;have p1:=ae4 (enc x) (enc y) (LL Q) (sz x) rv _ (j:Int) h5 omK;have akx:sz (2*(x / 2 ^ (j+1) % y))<=1000002:=by
    have:=Lu (x / 2 ^ (j+1) % y) (x / 2 ^ (j+1) % y);rw[show x / 2 ^ (j+1) % y+x / 2 ^ (j+1) % y=2*(x / 2 ^ (j+1) % y) by omega]at this;omega
   have hax:(enc x)[j / 32]?=some (bF (enc x) (j / 32)):=by
    have:j / 32<(enc x).length:=hw;simp[bF,Qa0 this]
   obtain⟨t8,p2⟩:=ae5 (enc x) (enc y) (LL Q) (sz x) (2*(x / 2 ^ (j+1) % y)) j _ hax (di (aS x) _) omK omK;rw[wB,IZ]at p2;have hb:x / 2 ^ j % 2<2:=Qv0 _ omK;have hH:x / 2 ^ j=2*(x / 2 ^ (j+1))+x / 2 ^ j % 2:=by
    rw[Ql1,<-Qy2];omega
   obtain⟨d1,d2⟩:=Yk (H:=x / 2 ^ (j+1)) hy hb;rw[<-hH]at d1 d2;have aky:sz (2*(x / 2 ^ (j+1) % y)+x / 2 ^ j % 2)<=1000004:=by
    have:=Lu (2*(x / 2 ^ (j+1) % y)) (x / 2 ^ j % 2);have h1s:sz (x / 2 ^ j % 2)<=1:=uL omK;omega
   obtain⟨t9,p3⟩:=ae6 (enc x) y Q (2*(x / 2 ^ (j+1) % y)+x / 2 ^ j % 2) j t8 omK omK omK h2 omK (EP h2 h4);rw[<-d2,h3]at p3;have w3:ah .i64 ((j:Int)-1)=(j:Int)-1:=wrap_i64 omK;have w4:(0:Int)<=(j:Int):=by omega
   have hlim:=di h2 (j / 32);refine .inl ⟨(j,if y<=2*(x / 2 ^ (j+1) % y)+x / 2 ^ j % 2 then Q.set (j / 32) (bF Q (j / 32)+2 ^ (j % 32)) else Q,.d (LD (enc (x / 2 ^ j % y)))),?_,by simp,by simp only;omega,?_,?_,?_,.inl rfl⟩
   ·simp only;rw[show(((j+1:Nat):Int)-1)=(j:Int) by omega];generalize (if y<=2*(x / 2 ^ (j+1) % y)+x / 2 ^ j % 2 then Q.set (j / 32) (bF Q (j / 32)+2 ^ (j % 32)) else Q)=Q',x / 2 ^ j % y=r' at*;show Ex E0 (.seq EO.l (.seq (.block 1 (.seq EO.r.l.bl.l (.seq EO.r.l.bl.r.l EO.r.l.bl.r.r))) EO.r.r)) _ _;refine Ex.seq (Ex.of (n:=40) ?_) (Ex.seq (Ex.gm (p1.seq (p2.seq p3))) (Ex.of (n:=40) ?_))
    ·unfold Ej;simp only[LD];generalize LL (enc x)=as' at*;generalize LL (enc y)=bs at*;generalize LL Q=es at*;simp -implicitDefEqProofs[EO,f171,w4]
    ·unfold Ej;simp only[LD];generalize LL (enc x)=as' at*;generalize LL (enc y)=bs at*;generalize LL Q'=es at*;generalize LL (enc r')=rs at*;simp -implicitDefEqProofs[EO,f171,w3]
   ·simp only;split
    ·exact Gb h2 (or_bit hlim (Qv0 _ omK) (EP h2 h4)).2
    ·exact h2
   ·simp only;split
    ·simp[h3]
    ·exact h3
   ·simp only;rw[d1];split
    ·have hvs:=Aq Q (j / 32) (bF Q (j / 32)+2 ^ (j % 32)) omK;have e2:4294967296 ^ (j / 32)*2 ^ (j % 32)=2 ^ j:=by
      rw[<-wI,<-Qx0,show 32*(j / 32)+j % 32=j by omega]
     rw[Xc0,e2,h4,Ql1]at hvs;have e3:(2*(x / (2 ^ j*2) / y)+1)*2 ^ j=x / (2 ^ j*2) / y*(2 ^ j*2)+2 ^ j:=by grind
     rw[Ql1,e3];omega
    ·rw[h4,Ql1];grind
 ·have hx0:x / 2 ^ (32*sz x)=0:=by rw[wI];exact Xb0 (IM x)
  refine⟨Qd1 _,?_,by simp[row0],?_,.inr ⟨?_,rfl⟩⟩
  ·intro z hz;simp[row0]at hz;omega
  ·have:∀ m,val (List.replicate m 0)=0:=by
    intro m
    induction m with
    | zero=>rfl
    | succ m ih=>rw[Xk1,val,ih]
   simp only[row0,Qy0,this,hx0];simp
  ·simp only[hx0,Nat.zero_mod]
theorem yD (x y:Nat)(hy:0<y)(lx:sz x<=1000000)(ly:sz y<=1000000) :
  Ca E0 171 [.d (LD (enc x)),.d (LD (enc y))] (.d (.t [LD (enc (x / y)),LD (enc (x % y))]),none):=by
 obtain⟨r,hloop,Q,rv,hQ,hql,hv,hr,rfl⟩:=Yl x y hy lx ly;obtain⟨n0,hc⟩:=(wG Q omK).get;rw[df hQ,hv]at hc;have uY:(LL (enc x)).length=sz x:=by simp[LL,sz]
 have hlo:(LL Q).length=sz x:=by simp[LL,hql]
 have htk:(LL Q).take (sz x)=LL Q:=Qg0 omK;have hz:=wz (sz x);generalize enc (x / y)=res at*;refine Ca.body (o:=.ret) (st1:=(st0 [.u,.u,.d (LD res),rv,.u,.u,.u,.u,.u,.u] [.gT 0 1 (LL Q)])) rfl (k171:E0.fn _=_) rfl ?_ (by intro id h;cases h) ?_
 ·show Ex E0 (.seq f171.body.l (.seq f171.body.r.l (.seq f171.body.r.r.l (.seq (.seq f171.body.r.r.r.l.l (.block 0 (.loop EO))) f171.body.r.r.r.r)))) _ _;refine Ex.seq (st1:=(st0 [.d (LD (enc x)),.d (LD (enc y)),.u,.u,.u,.u,.u,.u,.u,.u] [])) (Ex.of (n:=40) ?_)
   (Ex.seq (st1:=(st0 [.d (LD (enc x)),.d (LD (enc y)),.u,.u,.ls (.loc 0) 0 1 0 (sz x),.u,.u,.u,.u,.u] [.row 0 1 (LL (row0 [] (sz x)))])) (Ex.of (n:=40) ?_)
   (Ex.seq (st1:=(st0 [.d (LD (enc x)),.d (LD (enc y)),.u,.u,.ls (.loc 0) 0 1 0 (sz x),.d (.n 1),.u,.u,.u,.u] [.row 0 1 (LL (row0 [] (sz x)))])) (Ex.of (n:=40) ?_)
   (Ex.seq (Ex.seq (Ex.of (n:=40) ?_) hloop.block) (Ex.of (n:=n0+40) ?_))))
  ·simp -implicitDefEqProofs[f171]
  ·have hm1:((sz x:Nat):Int)*4<=1099511627776:=by omega
   have hm2:((sz x:Nat):Int)<=1099511627776:=by omega
   rw[hz];simp only[LD];generalize LL (enc x)=as',LL (enc y)=bs,sz x=m at*;simp -implicitDefEqProofs[f171,uY,hm1,hm2,most]
  ·simp -implicitDefEqProofs[f171]
  ·have w1:ah .i64 (32*((sz x:Nat):Int))=((32*sz x:Nat):Int):=by rw[wrap_i64 omK];omega
   have w2:ah .i64 (((32*sz x:Nat):Int)-1)=((32*sz x:Nat):Int)-1:=wrap_i64 omK;unfold Ej;simp only[LD];generalize LL (enc x)=as',LL (enc y)=bs,LL (row0 [] (sz x))=es,32*sz x=m32 at*;generalize sz x=m at*;simp -implicitDefEqProofs[f171,uY,w1,w2]
  ·unfold Ej;clear hloop;simp only[LD]at hc ⊢;generalize LL Q=es,sz x=m at*;simp -implicitDefEqProofs[ae.view,f171,hlo,htk,hc]
 ·rcases hr with rfl|⟨h0,rfl⟩
  ·simp -implicitDefEqProofs[f171,LD,uC]
  ·rw[h0];simp -implicitDefEqProofs[f171,LD,LL,dx,uC]
def wgB:aG:=f170.body.r.l.bl.lp
theorem Tw (a:Nat):Ex E0 wgB (Eg a 0 .u) (.exit 0,Eg a 0 (.d (.v (.bool false)))):=by
 refine Ex.of (n:=40) ?_;unfold Eg;simp only[dx,LD];generalize LL (enc a)=as';simp -implicitDefEqProofs[wgB,f170,LL]
theorem LB (a b:Nat)(la:sz a<=1000000)(lb:sz b<=1000000)(hb0:0<b):Ex E0 wgB (Eg a b .u) (.norm,Eg b (a % b) .u):=by
 obtain⟨n0,ho⟩:=(yD a b hb0 la lb).get;refine Ex.of (n:=n0+60) ?_;unfold Eg;have hlb:∃ m,(LL (enc b)).length=m+1:=by
  have:0<(enc b).length:=Xg2.2 (by intro e;rw[dV]at e;omega);exact⟨(enc b).length-1,by simp[LL];omega⟩
 obtain⟨m,hlb⟩:=hlb;have hm:0<(m:Int)+1:=by omega
 simp only[LD]at ho ⊢;generalize LL (enc a)=as',LL (enc b)=bs,LL (enc (a / b))=qs,LL (enc (a % b))=rs at*;simp -implicitDefEqProofs[wgB,f170,hlb,ho,hm]
theorem PX (a b:Nat)(la:sz a<=1000000)(lb:sz b<=1000000):Ex E0 (.loop wgB) (Eg a b .u) (.exit 0,Eg (Nat.gcd a b) 0 (.d (.v (.bool false)))):=by
 induction b using Nat.strongRecOn generalizing a with
 | ind b ih =>
  rcases Qt0 b with rfl|h0
  ·rw[Nat.gcd_zero_right];exact Ex.out (Tw a) (by simp)
  ·have hm:=Qv0 a h0;have:=ih (a % b) hm b lb (Qc2 (oQ omK) lb);have hg:Nat.gcd a b=Nat.gcd b (a % b):=by rw[Xt0 a b,Nat.gcd_rec b a,Xt0]
   rw[hg];exact Ex.next (LB a b la lb h0) this
theorem BD (a b:Nat)(la:sz a<=1000000)(lb:sz b<=1000000):Ca E0 170 [.d (LD (enc a)),.d (LD (enc b))] (.d (LD (enc (Nat.gcd a b))),none):=by
 have hl:=PX a b la lb;generalize Nat.gcd a b=g at*;refine Ca.body (o:=.ret) (st1:=(st0 [.u,.u,.d (LD (enc g)),.u,.u] [])) rfl (k170:E0.fn _=_) rfl ?_ (by intro id h;cases h) ?_
 ·show Ex E0 (.seq f170.body.l (.seq (.block 0 (.loop wgB)) f170.body.r.r)) _ _;refine Ex.seq (st1:=Eg a b .u) (Ex.of (n:=40) ?_) (Ex.seq hl.block (Ex.of (n:=40) ?_))
  ·unfold Eg;simp -implicitDefEqProofs[f170]
  ·unfold Eg;simp -implicitDefEqProofs[f170]
 ·simp -implicitDefEqProofs[f170,LD]
theorem last_cases (l:List Nat):l=[]\/∃ (m x:Nat),l.length=m+1/\(LL l)[m]?=some (.v (.int .u32 (x:Int)))/\((x:Int)==0) = !u7 l:=by
 rcases Xa1 l with h|⟨b,x,h⟩
 ·exact .inl h
 ·refine .inr ⟨b.length,x,by simp[h],by simp[LL,h],?_⟩;rw[h,Q32];unfold u7
  by_cases hx:x=0
  ·subst hx;rw[tO];have h2:=q9 b;have h3:¬ trim b=b++[0]:=by
    intro e;rw[e]at h2;simp only[Qb0,Qe2,Qr2]at h2;omega
   simp[h3]
  ·rw[tN b x hx];have:((x:Int)==0)=false:=by simp;omega
   simp[this]
theorem AA {g:Nat}:enc g=[1]↔g=1:=by
 constructor
 ·intro h;have:=aV g;rw[h]at this;simp[val]at this;omega
 ·rintro rfl;exact jr omK omK
theorem PY (s:Bool)(a b:List Nat)(hb:bV b) :
  dP s a b=(if !u7 a || !u7 b||decide (b=[1]) then false else if a=[] then !s&&decide (b=[]) else decide (b=[])||decide (Nat.gcd (val a) (val b)=1)):=by
 unfold dP;cases u7 a
 ·simp
 ·cases h:u7 b
  ·simp
  ·simp only[Qs0,Xi2,Xc1]
   by_cases h1:b=[1]
   ·subst h1;simp[val]
   ·have hv:b≠[]->val b≠1:=by
     intro _ hv;have:=(nu hb).1 h;rw[hv]at this;exact h1 (this.trans (AA.2 rfl))
    simp only[h1,decide_false,Qi0,if_false]
    by_cases h0:b=[]
    ·subst h0;simp
    ·simp only[h0,decide_false,Bool.and_false,Xc1,hv h0,ne_eq,not_false_eq_true,decide_true,Qs0]
theorem tX (s:Bool)(a b:List Nat)(la:a.length<=1000000)(lb:b.length<=1000000)(ha:bV a)(hb:bV b):Ca E0 97 [.d (raw s a b)] (.d (.v (.bool (dP s a b))),none):=by
 rw[PY s a b hb];have h1:=fun m=>BB m b
 -- the two last limbs
 have ca:=last_cases a;have cb:=last_cases b;have hla:(LL a).length=a.length:=by simp[LL]
 have hlb:(LL b).length=b.length:=by simp[LL]
 by_cases hbad:(!u7 a || !u7 b||decide (b=[1]))=true
 ·rw[if_pos hbad];refine Ca.bO (n:=90) ?_;rw[av rfl (k97:E0.fn _=_) rfl];rcases ca with rfl|⟨m,x,hm,hx,hx0⟩
  ·have ok0:u7 []=true:=by simp[u7,trim]
   rw[ok0]at hbad;rcases cb with rfl|⟨m2,y,hm2,hy,hy0⟩
   ·rw[ok0]at hbad;simp at hbad
   ·have p2:(0:Int)<(m2:Int)+1:=by omega
    have w2:ah .i64 (m2:Int)=(m2:Int):=wrap_i64 omK;rw[hm2]at hlb;cases Ij:u7 b
    ·rw[Ij]at hy0;simp only[raw,LD]at h1 ⊢;generalize LL b=bs at*;have i2:=idx hy;simp only[LL,Qc0];simp -implicitDefEqProofs[f97,hlb,hy,i2,hy0,p2,w2]
    ·rw[Ij]at hy0 hbad;have h11:decide (b=[1])=true:=by simpa using hbad
     rw[h11]at h1;simp only[raw,LD]at h1 ⊢;generalize LL b=bs at*;have i2:=idx hy;simp only[LL,Qc0];simp -implicitDefEqProofs[f97,hlb,hy,i2,hy0,p2,w2,h1]
  ·have p1:(0:Int)<(m:Int)+1:=by omega
   have w1:ah .i64 (m:Int)=(m:Int):=wrap_i64 omK;rw[hm]at hla;cases hoa:u7 a
   ·rw[hoa]at hx0;simp only[raw,LD]at h1 ⊢;generalize LL a=as',LL b=bs at*;have i1:=idx hx;simp -implicitDefEqProofs[f97,hla,hx,i1,hx0,p1,w1]
   ·rw[hoa]at hx0 hbad;rcases cb with rfl|⟨m2,y,hm2,hy,hy0⟩
    ·have ok0:u7 []=true:=by simp[u7,trim]
     rw[ok0]at hbad;simp at hbad
    ·have p2:(0:Int)<(m2:Int)+1:=by omega
     have w2:ah .i64 (m2:Int)=(m2:Int):=wrap_i64 omK;rw[hm2]at hlb;cases Ij:u7 b
     ·rw[Ij]at hy0;simp only[raw,LD]at h1 ⊢;generalize LL a=as',LL b=bs at*;have i1:=idx hx;have i2:=idx hy;simp -implicitDefEqProofs[f97,hla,hx,i1,hx0,p1,w1,hlb,hy,i2,hy0,p2,w2]
     ·rw[Ij]at hy0 hbad;have h11:decide (b=[1])=true:=by simpa using hbad
      rw[h11]at h1;simp only[raw,LD]at h1 ⊢;generalize LL a=as',LL b=bs at*;have i1:=idx hx;have i2:=idx hy;simp -implicitDefEqProofs[f97,hla,hx,i1,hx0,p1,w1,hlb,hy,i2,hy0,p2,w2,h1]
 ·rw[if_neg hbad];simp only[Xn0,Qs2,decide_eq_true_eq,not_or,Bool.not_eq_false]at hbad;obtain⟨⟨hoa,Ij⟩,hb1⟩:=hbad;have h10:decide (b=[1])=false:=by simpa using hb1
  rw[h10]at h1;rcases ca with rfl|⟨m,x,hm,hx,hx0⟩
  ·rw[if_pos rfl];refine Ca.bO (n:=90) ?_;rw[av rfl (k97:E0.fn _=_) rfl];rcases cb with rfl|⟨m2,y,hm2,hy,hy0⟩
   ·simp only[raw,LD,LL,Qc0]at h1 ⊢;cases s<;>simp -implicitDefEqProofs[f97,h1]
   ·have p2:(0:Int)<(m2:Int)+1:=by omega
    have w2:ah .i64 (m2:Int)=(m2:Int):=wrap_i64 omK;have hbn:decide (b=[])=false:=by
     have:¬ b=[]:=by intro e;rw[e]at hm2;simp at hm2
     simpa using this
    have hne:(((m2:Int)+1)==0)=false:=by simp;omega
    rw[hm2]at hlb;rw[Ij]at hy0;rw[hbn];simp only[raw,LD]at h1 ⊢;generalize LL b=bs at*;have i2:=idx hy;simp only[LL,Qc0];cases s<;>simp -implicitDefEqProofs[f97,hlb,hy,i2,hy0,p2,w2,h1,hne]
  ·have p1:(0:Int)<(m:Int)+1:=by omega
   have w1:ah .i64 (m:Int)=(m:Int):=wrap_i64 omK;have han:¬ a=[]:=by intro e;rw[e]at hm;simp at hm
   have hne:(((m:Int)+1)==0)=false:=by simp;omega
   rw[if_neg han];rw[hoa]at hx0;rw[hm]at hla;rcases cb with rfl|⟨m2,y,hm2,hy,hy0⟩
   ·refine Ca.bO (n:=90) ?_;rw[av rfl (k97:E0.fn _=_) rfl];simp only[raw,LD]at h1 ⊢;generalize LL a=as' at*;have i1:=idx hx;simp only[LL,Qc0]at h1 ⊢;simp -implicitDefEqProofs[f97,hla,hx,i1,hx0,p1,w1,h1,hne]
   ·have p2:(0:Int)<(m2:Int)+1:=by omega
    have w2:ah .i64 (m2:Int)=(m2:Int):=wrap_i64 omK;have hbn:¬ b=[]:=by intro e;rw[e]at hm2;simp at hm2
    have hne2:(((m2:Int)+1)==0)=false:=by simp;omega
    have hdb:decide (b=[])=false:=by simpa using hbn
    have ea:=(nu ha).1 hoa;have eb:=(nu hb).1 Ij;obtain⟨N,hg⟩:=(BD (val a) (val b) (by unfold sz;rw[<-ea];omega) (by unfold sz;rw[<-eb];omega)).get;rw[<-ea,<-eb]at hg;have hg1:=fun m=>BB m (enc (Nat.gcd (val a) (val b)))
    have e1:decide (enc (Nat.gcd (val a) (val b))=[1])=decide (Nat.gcd (val a) (val b)=1):=by simp[AA]
    rw[e1]at hg1;refine Ca.bO (n:=N+90) ?_;rw[av rfl (k97:E0.fn _=_) rfl];rw[hdb,Xc1];rw[hm2]at hlb;rw[Ij]at hy0;generalize decide (Nat.gcd (val a) (val b)=1)=res at*;simp only[raw,LD]at h1 hg hg1 ⊢;generalize LL (enc (Nat.gcd (val a) (val b)))=gs,LL a=as',LL b=bs at*;have i1:=idx hx;have i2:=idx hy;simp -implicitDefEqProofs[f97,hla,hx,i1,hx0,p1,w1,hlb,hy,i2,hy0,p2,w2,h1,hne,hne2,hg,hg1]
def bZ (s:Bool)(a b:List Nat):Rat:=wC s (val a) (if b=[] then 1 else val b)
theorem tY {s:Bool}{a b:List Nat}(ha:bV a)(hb:bV b)(h:dP s a b=true):raw s a b=qD (bZ s a b):=by
 unfold dP at h;simp only[Qb2]at h;obtain⟨⟨hoa,Ij⟩,hc⟩:=h;have ea:=(nu ha).1 hoa;have eb:=(nu hb).1 Ij;unfold qD qn qd bZ
 by_cases hna:a=[]
 ·subst hna;rw[if_pos rfl]at hc;simp only[Qb2,Qs2,decide_eq_true_eq]at hc;obtain⟨hs,hb0⟩:=hc;subst hs hb0;rw[if_pos rfl,Bw omK,tV omK,tT omK];simp[val,raw,dx]
 ·rw[if_neg hna]at hc;have hva:val a≠0:=by
   intro e;rw[e,dx]at ea;exact hna ea
  by_cases hnb:b=[]
  ·subst hnb;rw[if_pos rfl,Bw omK,tV omK,tT omK,Nat.gcd_one_right,Xk0,Xk0,if_neg hva,if_pos rfl,<-ea]
  ·have hvb:val b≠0:=by
    intro e;rw[e,dx]at eb;exact hnb eb
   rw[if_neg hnb];simp only[hnb,decide_false,Xc1,Qb2,decide_eq_true_eq]at hc;rw[Bw omK,tV omK,tT omK,hc.2,Xk0,Xk0,if_neg hva,if_neg hc.1,<-ea,<-eb]
theorem ru (x:Rat):bZ (qs x) (qn x) (qd x)=x:=by
 unfold bZ;have h1:val (qn x)=x.num.natAbs:=aV _;have h2:(if qd x=[] then 1 else val (qd x))=x.den:=by
  unfold qd;have hd:=x.den_nz
  by_cases h:x.den=1
  ·rw[if_pos h,if_pos rfl,h]
  ·rw[if_neg h,if_neg (by rw[dV];exact hd),aV]
 rw[h1,h2,IQ]
theorem wJ {s:Bool}{a b:List Nat}(ha:bV a)(hb:bV b)(k:Nat)(la:a.length<=k)(lb:b.length<=k)(hk:1<=k)(h:dP s a b=true):qz (bZ s a b)<=k:=by
 unfold bZ;have hd:0<(if b=[] then 1 else val b):=by
  split
  ·omega
  ·rename_i hnb;unfold dP at h;simp only[Qb2]at h;have eb:=(nu hb).1 h.1.2;rcases Qt0 (val b) with e|e
   ·rw[e,dx]at eb;exact absurd eb hnb
   ·exact e
 refine Qc2 (Bz hd) ?_;have h1:sz (val a)<=k:=by
  refine Qc2 (uL (k:=a.length) (nN ha)) la
 have h2:sz (if b=[] then 1 else val b)<=k:=by
  split
  ·rw[Bt];exact hk
  ·exact Qc2 (uL (k:=b.length) (nN hb)) lb
 omega
def Tx (s:Bool)(a b:List Nat):D:=if dP s a b then raw s a b else raw false [] []
theorem Ty (s:Bool)(a b:List Nat)(la:a.length<=1000000)(lb:b.length<=1000000)(ha:bV a)(hb:bV b):Ca E0 85 [.d (raw s a b)] (.d (Tx s a b),none):=by
 obtain⟨N,t⟩:=(tX s a b la lb ha hb).get;unfold Tx;refine Ca.bO (n:=N+60) ?_;rw[av rfl (k85:E0.fn _=_) rfl];cases hv:dP s a b
 ·rw[hv]at t;rw[if_neg (by simp)];simp only[raw,LD]at t ⊢;generalize LL a=as',LL b=bs at*;simp only[LL,Qc0];simp -implicitDefEqProofs[f85,t]
 ·rw[hv]at t;rw[if_pos rfl];have l1:(LL a).length<=1000000:=by simpa[LL] using la
  have l2:(LL b).length<=1000000:=by simpa[LL] using lb
  simp only[raw,LD]at t ⊢;generalize LL a=as',LL b=bs at*;cases as' with
  | nil =>
   cases bs with
   | nil=>simp -implicitDefEqProofs[f85,t,ae.view,most]
   | cons y ys =>
    simp only[Qe2]at l2;have m1:(ys.length+1)*4<=1099511627776:=by omega
    have m2:ys.length+1<=1099511627776:=by omega
    simp -implicitDefEqProofs[f85,t,ae.view,most,m1,m2]
  | cons x xs =>
   simp only[Qe2]at l1;have m3:(xs.length+1)*4<=1099511627776:=by omega
   have m4:xs.length+1<=1099511627776:=by omega
   cases bs with
   | nil=>simp -implicitDefEqProofs[f85,t,ae.view,most,m3,m4]
   | cons y ys =>
    simp only[Qe2]at l2;have m1:(ys.length+1)*4<=1099511627776:=by omega
    have m2:ys.length+1<=1099511627776:=by omega
    simp -implicitDefEqProofs[f85,t,ae.view,most,m1,m2,m3,m4]
theorem iG (x:Rat)(hx:qz x<=1000000):Ca E0 85 [.d (qD x)] (.d (qD x),none):=by
 have h:=Ty (qs x) (qn x) (qd x) (Qc2 (Tj x) hx) (Qc2 (Tk x) hx) (Gi x) (Gj x);unfold Tx at h;rw[tQ,if_pos rfl]at h;exact h
theorem AB (n:Nat)(x:Rat):CL E0 (n+40) 88 [.d (qD x)] []=some (.d (LD (enc x.den)),none):=by
 rw[av rfl (k88:E0.fn _=_) rfl];have hd:=x.den_nz;unfold qD qd
 by_cases h:x.den=1
 ·rw[if_pos h,h,Br];simp only[raw,LD];generalize LL (qn x)=ns,qs x=s at*;simp only[LL,Qc0];simp -implicitDefEqProofs[f88,ae.view]
 ·rw[if_neg h];have hne:¬ LL (enc x.den)=[]:=by simp[LL,dV,hd]
  simp only[raw,LD];generalize LL (qn x)=ns,LL (enc x.den)=ds,qs x=s at*;simp -implicitDefEqProofs[f88,hne]
theorem BF {s:Bool}{n d:Nat}(ln:sz n<=1000000)(ld:sz d<=1000000)(hd0:0<d):Ca E0 89 [.d (.v (.bool s)),.d (LD (enc n)),.d (LD (enc d))] (.d (qD (wC s n d)),none):=by
 unfold qD qn qd;rw[Bw hd0,tV hd0,tT hd0];rcases Qt0 n with rfl|hn0
 ·have e2:d / Nat.gcd 0 d=1:=by rw[Nat.gcd_zero_left];exact Nat.div_self hd0
  rw[e2];refine Ca.bO (n:=60) ?_;rw[av rfl (k89:E0.fn _=_) rfl];simp only[raw,Nat.zero_div,dx,if_true,LD,LL,Qc0];generalize List.map (fun(x:Nat)=>D.v (Value.int IntKind.u32 (x:Int))) (enc d)=ds at*;simp -implicitDefEqProofs[f89]
 ·rw[if_neg omK];have hg:0<Nat.gcd n d:=Xt2 n hd0;have lg:sz (Nat.gcd n d)<=1000000:=Qc2 (oQ (Xy0 hd0 (Xv1 n d))) ld;obtain⟨Kq,_,c1,c3,c4⟩:=((BD n d ln ld).j ((yD n (Nat.gcd n d) hg ln lg).j ((yD d (Nat.gcd n d) hg ld lg).any))).at 0;generalize Kq=N at*;have hln:¬ LL (enc n)=[]:=by
   have:¬ n=0:=by omega
   simp[LL,dV,this]
  have o1:=fun m=>BB m (enc (d / Nat.gcd n d))
  have e1:decide (enc (d / Nat.gcd n d)=[1])=decide (d / Nat.gcd n d=1):=by simp[AA]
  rw[e1]at o1;generalize Nat.gcd n d=g at*;refine Ca.bO (n:=N+80) ?_;rw[av rfl (k89:E0.fn _=_) rfl]
  by_cases hd1:d / g=1
  ·rw[if_pos hd1];rw[decide_eq_true hd1]at o1;generalize d / g=dd,n / g=nn,n % g=m1,d % g=m2 at*;simp only[raw,LD]at c1 c3 c4 o1 ⊢;generalize LL (enc n)=ns,LL (enc d)=ds,LL (enc g)=gs at*;generalize LL (enc nn)=q1,LL (enc dd)=q2,LL (enc m1)=x1,LL (enc m2)=x2 at*;simp only[LL,Qc0];simp -implicitDefEqProofs[f89,o1,c1,c3,c4,hln]
  ·rw[if_neg hd1];rw[decide_eq_false hd1]at o1;generalize d / g=dd,n / g=nn,n % g=m1,d % g=m2 at*;simp only[raw,LD]at c1 c3 c4 o1 ⊢;generalize LL (enc n)=ns,LL (enc d)=ds,LL (enc g)=gs at*;generalize LL (enc nn)=q1,LL (enc dd)=q2,LL (enc m1)=x1,LL (enc m2)=x2 at*;simp -implicitDefEqProofs[f89,o1,c1,c3,c4,hln]
theorem mI (x:Rat)(hx:qz x<=1000000):Ca E0 98 [.d (qD x)] (.d (.v (.int .i64 x.num.sign)),none):=by
 obtain⟨N,t⟩:=(iG x hx).get;refine Ca.bO (n:=N+60) ?_;rw[av rfl (k98:E0.fn _=_) rfl];simp only[qD,raw,LD]at*;have hs:(LL (qn x)=[]/\qs x=false/\x.num.sign=0)\/(LL (qn x)≠[]/\qs x=true/\x.num.sign=-1)\/((∃ m,(LL (qn x)).length=m+1)/\qs x=false/\x.num.sign=1):=by
  have hnil:LL (qn x)=[]↔x.num.natAbs=0:=by simp only[LL,Xr2];exact dV
  rw[Ne,hnil];rcases Q81 x.num 0 with h|h|h
  ·exact .inr (.inl ⟨by omega,decide_eq_true h,Q10 h⟩)
  ·exact .inl ⟨by omega,decide_eq_false omK,by rw[h];rfl⟩
  ·refine .inr (.inr ⟨?_,decide_eq_false omK,Q80 h⟩);cases hl:LL (qn x) with
   | nil=>rw[hnil]at hl;omega
   | cons y r=>exact⟨r.length,rfl⟩
 generalize LL (qn x)=z1,LL (qd x)=z3,qs x=s at*;rcases hs with ⟨a,b,c⟩|⟨a,b,c⟩|⟨⟨m,a⟩,b,c⟩
 ·rw[c];subst a;subst b;simp -implicitDefEqProofs[f98,t]
 ·rw[c];subst b;simp -implicitDefEqProofs[f98,t,a]
 ·have hm:(0:Int)<(m:Int)+1:=by omega
  rw[c];subst b;simp -implicitDefEqProofs[f98,t,a,hm]
theorem abV (x:Rat):qD (-x)=raw (if x.num.natAbs=0 then false else !qs x) (qn x) (qd x):=by
 unfold qD qn qd qs;rw[Rat.neg_num,Rat.neg_den,Int.natAbs_neg]
 congr 1
 rcases Q81 x.num 0 with h|h|h
 ·rw[if_neg omK,decide_eq_true h,decide_eq_false omK];rfl
 ·rw[if_pos omK,decide_eq_false omK]
 ·rw[if_neg omK,decide_eq_false (show ¬ x.num<0 by omega),decide_eq_true omK];rfl
theorem Ym (x:Rat)(hx:qz x<=1000000):Ca E0 95 [.d (qD x)] (.d (qD (-x)),none):=by
 obtain⟨N,t⟩:=(iG x hx).get;refine Ca.bO (n:=N+60) ?_;rw[av rfl (k95:E0.fn _=_) rfl];rw[abV];have hnil:LL (qn x)=[]↔x.num.natAbs=0:=by simp only[LL,Xr2];exact dV
 simp only[qD,raw,LD]at*;generalize LL (qd x)=z3,qs x=s at*;cases hl:LL (qn x) with
 | nil =>
  rw[if_pos (hnil.1 hl)];rw[hl]at t;simp -implicitDefEqProofs[f95,t]
 | cons y r =>
  have:¬ x.num.natAbs=0:=by rw[<-hnil,hl];simp
  rw[if_neg this];rw[hl]at t;have hm:(0:Int)<(r.length:Int)+1:=by omega
  simp -implicitDefEqProofs[f95,t,hm]
theorem mJ {a b:Nat}(ha:sz a<=1000000)(hb:sz b<=1000000):Ca E0 87 [.d (LD (enc a)),.d (LD (enc b))] (.d (LD (enc (a*b))),none):=by
 unfold sz at ha hb;have:=PW (enc a) (enc b) omK omK (aS _) (aS _);simpa only[aV] using this
theorem PZ {a b:Nat}(ha:sz a<=1000000)(hb:sz b<=1000000):Ca E0 90 [.d (LD (enc a)),.d (LD (enc b))] (.d (LD (enc (a+b))),none):=by
 unfold sz at ha hb;have:=BC (enc a) (enc b) omK omK (aS _) (aS _);simpa only[aV] using this
theorem BG {a b:Nat}(ha:sz a<=1000000)(hb:b<=a):Ca E0 92 [.d (LD (enc a)),.d (LD (enc b))] (.d (LD (enc (a-b))),none):=by
 unfold sz at ha;have:=EN (enc a) (enc b) omK (bI hb) (aS _) (aS _) (by simpa only[aV] using hb);simpa only[aV] using this
theorem Gs (x y:Rat)(hx:qz x<=100000)(hy:qz y<=100000):Ca E0 57 [.d (qD x),.d (qD y)] (.d (qD (x*y)),none):=by
 obtain⟨k1,t1⟩:=(iG x omK).any;obtain⟨k2,t2⟩:=(iG y omK).any;have hx1:sz x.num.natAbs<=100000:=Qc2 (Q11 _ _) hx;have hx2:sz x.den<=100000:=Qc2 (Q00 _ _) hx;have hy1:sz y.num.natAbs<=100000:=Qc2 (Q11 _ _) hy;have hy2:sz y.den<=100000:=Qc2 (Q00 _ _) hy;have b1:=fu x.num.natAbs y.num.natAbs;have b2:=fu x.den y.den;obtain⟨k3,t3⟩:=(mJ (a:=x.num.natAbs) (b:=y.num.natAbs) omK omK).any;obtain⟨k4,t4⟩:=(mJ (a:=x.den) (b:=y.den) omK omK).any;obtain⟨k5,t5⟩:=(BF (s:=qs x != qs y) (n:=x.num.natAbs*y.num.natAbs) (d:=x.den*y.den) omK omK (Xd0 (den_pos x) (den_pos y))).any;rw[N_]at t5;have d1:=fun m=>AB m x
 have d2:=fun m=>AB m y
 replace t1:=t1 (k1+k2+k3+k4+k5) omK;replace t2:=t2 (k1+k2+k3+k4+k5) omK;replace t3:=t3 (k1+k2+k3+k4+k5) omK;replace t4:=t4 (k1+k2+k3+k4+k5) omK;replace t5:=t5 (k1+k2+k3+k4+k5) omK;generalize k1+k2+k3+k4+k5=N at*;refine Ca.bO (n:=N+80) ?_;rw[av rfl (k57:E0.fn _=_) rfl];have n1:enc x.num.natAbs=qn x:=rfl;have n2:enc y.num.natAbs=qn y:=rfl;rw[n1,n2]at t3;generalize x.num.natAbs*y.num.natAbs=n,x.den*y.den=d at*;simp only[qD,raw,LD]at*;generalize qs x=s1,qs y=s2,LL (enc x.den)=x3,LL (enc y.den)=x4,LL (qn x)=z1,LL (qn y)=z2,LL (qd x)=z3,LL (qd y)=z4,LL (enc n)=x7,LL (enc d)=x8,LL (qn (x*y))=x9,LL (qd (x*y))=y1,qs (x*y)=sg at*;simp only[bne]at t5;simp -implicitDefEqProofs[f57,t1,t2,t3,t4,t5,d1,d2]
theorem AJ (x y:Rat)(hx:qz x<=100000)(hy:qz y<=100000):Ca E0 54 [.d (qD x),.d (qD y)] (.d (qD (x+y)),none):=by
 obtain⟨k1,t1⟩:=(iG x omK).any;obtain⟨k2,t2⟩:=(iG y omK).any;have hx1:sz x.num.natAbs<=100000:=Qc2 (Q11 _ _) hx;have hx2:sz x.den<=100000:=Qc2 (Q00 _ _) hx;have hy1:sz y.num.natAbs<=100000:=Qc2 (Q11 _ _) hy;have hy2:sz y.den<=100000:=Qc2 (Q00 _ _) hy;have b1:=fu x.num.natAbs y.den;have b2:=fu y.num.natAbs x.den;have b3:=fu x.den y.den;have b4:=@wE (qs x) (qs y) (x.num.natAbs*y.den) (y.num.natAbs*x.den);have d1:=fun m=>AB m x
 have d2:=fun m=>AB m y
 obtain⟨k3,t3⟩:=(mJ (a:=x.num.natAbs) (b:=y.den) omK omK).any;obtain⟨k4,t4⟩:=(mJ (a:=y.num.natAbs) (b:=x.den) omK omK).any;obtain⟨k5,t5⟩:=(mJ (a:=x.den) (b:=y.den) omK omK).any;obtain⟨k6,t6⟩:=(BF (s:=oU (qs x) (x.num.natAbs*y.den) (qs y) (y.num.natAbs*x.den)) (n:=nO (qs x) (x.num.natAbs*y.den) (qs y) (y.num.natAbs*x.den)) (d:=x.den*y.den) omK omK (Xd0 (den_pos x) (den_pos y))).any;rw[Gm]at t6;have n1:enc x.num.natAbs=qn x:=rfl;have n2:enc y.num.natAbs=qn y:=rfl;rw[n1]at t3;rw[n2]at t4;generalize x.num.natAbs*y.den=a,y.num.natAbs*x.den=b,x.den*y.den=d at*;obtain⟨k7,t7⟩:=(PZ (a:=a) (b:=b) omK omK).any;obtain⟨k8,t8⟩:=(Oc a b omK omK).any
 by_cases hs:qs x=qs y
 ·have e1:oU (qs x) a (qs y) b=qs x:=by unfold oU;rw[if_pos hs]
  have e2:nO (qs x) a (qs y) b=a+b:=by unfold nO;rw[if_pos hs]
  rw[e1,e2]at t6;have hbq:(qs x==qs y)=true:=by simpa using hs
  replace t1:=t1 (k1+k2+k3+k4+k5+k6+k7) omK;replace t2:=t2 (k1+k2+k3+k4+k5+k6+k7) omK;replace t3:=t3 (k1+k2+k3+k4+k5+k6+k7) omK;replace t4:=t4 (k1+k2+k3+k4+k5+k6+k7) omK;replace t5:=t5 (k1+k2+k3+k4+k5+k6+k7) omK;replace t6:=t6 (k1+k2+k3+k4+k5+k6+k7) omK;replace t7:=t7 (k1+k2+k3+k4+k5+k6+k7) omK;generalize k1+k2+k3+k4+k5+k6+k7=N at*;refine Ca.bO (n:=N+90) ?_;rw[av rfl (k54:E0.fn _=_) rfl];simp only[qD,raw,LD]at*;generalize qs (x+y)=sg,qs x=s1,qs y=s2,LL (enc x.den)=x3,LL (enc y.den)=x4,LL (qn (x+y))=x9,LL (qd (x+y))=y1,LL (qn x)=z1,LL (qn y)=z2,LL (qd x)=z3,LL (qd y)=z4,LL (enc (a+b))=x5,LL (enc a)=x6,LL (enc b)=x7,LL (enc d)=x8 at*;simp -implicitDefEqProofs[f54,t1,t2,t3,t4,t5,t6,t7,d1,d2,hbq]
 ·have hbq:(qs x==qs y)=false:=by simpa using hs
  by_cases hab:b<=a
  ·obtain⟨k9,t9⟩:=(BG (a:=a) (b:=b) omK hab).any;have e1:oU (qs x) a (qs y) b=qs x:=by unfold oU;rw[if_neg hs,if_pos hab]
   have e2:nO (qs x) a (qs y) b=a-b:=by unfold nO;rw[if_neg hs,if_pos hab]
   rw[e1,e2]at t6;have hc:(0:Int)<=dO a b:=by unfold dO;rw[if_neg omK];split<;>omega
   replace t1:=t1 (k1+k2+k3+k4+k5+k6+k8+k9) omK;replace t2:=t2 (k1+k2+k3+k4+k5+k6+k8+k9) omK;replace t3:=t3 (k1+k2+k3+k4+k5+k6+k8+k9) omK;replace t4:=t4 (k1+k2+k3+k4+k5+k6+k8+k9) omK;replace t5:=t5 (k1+k2+k3+k4+k5+k6+k8+k9) omK;replace t6:=t6 (k1+k2+k3+k4+k5+k6+k8+k9) omK;replace t8:=t8 (k1+k2+k3+k4+k5+k6+k8+k9) omK;replace t9:=t9 (k1+k2+k3+k4+k5+k6+k8+k9) omK;generalize k1+k2+k3+k4+k5+k6+k8+k9=N at*;refine Ca.bO (n:=N+90) ?_;rw[av rfl (k54:E0.fn _=_) rfl];simp only[qD,raw,LD]at*;generalize dO a b=cc,qs (x+y)=sg,qs x=s1,qs y=s2,LL (enc x.den)=x3,LL (enc y.den)=x4,LL (qn (x+y))=x9,LL (qd (x+y))=y1,LL (qn x)=z1,LL (qn y)=z2,LL (qd x)=z3,LL (qd y)=z4,LL (enc (a-b))=x5,LL (enc a)=x6,LL (enc b)=x7,LL (enc d)=x8 at*;simp -implicitDefEqProofs[f54,t1,t2,t3,t4,t5,t6,t8,t9,d1,d2,hbq,hc]
  ·obtain⟨k9,t9⟩:=(BG (a:=b) (b:=a) omK omK).any;have e1:oU (qs x) a (qs y) b=qs y:=by unfold oU;rw[if_neg hs,if_neg hab]
   have e2:nO (qs x) a (qs y) b=b-a:=by unfold nO;rw[if_neg hs,if_neg hab]
   rw[e1,e2]at t6;have hc:dO a b=-1:=by unfold dO;rw[if_pos omK]
   rw[hc]at t8;replace t1:=t1 (k1+k2+k3+k4+k5+k6+k8+k9) omK;replace t2:=t2 (k1+k2+k3+k4+k5+k6+k8+k9) omK;replace t3:=t3 (k1+k2+k3+k4+k5+k6+k8+k9) omK;replace t4:=t4 (k1+k2+k3+k4+k5+k6+k8+k9) omK;replace t5:=t5 (k1+k2+k3+k4+k5+k6+k8+k9) omK;replace t6:=t6 (k1+k2+k3+k4+k5+k6+k8+k9) omK;replace t8:=t8 (k1+k2+k3+k4+k5+k6+k8+k9) omK;replace t9:=t9 (k1+k2+k3+k4+k5+k6+k8+k9) omK;generalize k1+k2+k3+k4+k5+k6+k8+k9=N at*;refine Ca.bO (n:=N+90) ?_;rw[av rfl (k54:E0.fn _=_) rfl];simp only[qD,raw,LD]at*;generalize qs (x+y)=sg,qs x=s1,qs y=s2,LL (enc x.den)=x3,LL (enc y.den)=x4,LL (qn (x+y))=x9,LL (qd (x+y))=y1,LL (qn x)=z1,LL (qn y)=z2,LL (qd x)=z3,LL (qd y)=z4,LL (enc (b-a))=x5,LL (enc a)=x6,LL (enc b)=x7,LL (enc d)=x8 at*;simp -implicitDefEqProofs[f54,t1,t2,t3,t4,t5,t6,t8,t9,d1,d2,hbq]
def LK (k:IntKind)(l:List Int):List D:=l.map fun x=>D.v (.int k x)
def seB:aG:=f70.body.r.r.l.r.bl.lp
def Xo (ki:IntKind)(a b:List Int)(k:Nat)(t:FV):St:=(st0 [.d ((.s 1 (LK ki a))),.d ((.s 1 (LK ki b))),.u,.u,.u,.d (.v (.int .i64 a.length)),.d (.v (.int .i64 k)),t,.u] [])
def seF:St:=(st0 [.u,.u,.d (.v (.bool false)),.u,.u,.u,.u,.u,.u] [])
theorem LF (ki:IntKind)(a b:List Int)(k:Nat)(x y:Int)(la:a.length<=1000000000)(hx:a[k]?=some x)(hy:b[k]?=some y) :
  EX E0 60 seB (Xo ki a b k .u)=if x=y then some (.norm,Xo ki a b (k+1) .u) else some (.ret,seF):=by
 have hk:=(bD hx)
 have hx':(LK ki a)[k]?=some (.v (.int ki x)):=by simp[LK,hx]
 have hy':(LK ki b)[k]?=some (.v (.int ki y)):=by simp[LK,hy]
 have hx2:=idx hx';have hy2:=idx hy';have bz:ah .i64 ((k:Int)+1)=(k:Int)+1:=wrap_i64 omK;have hk1:((k+1:Nat):Int)=(k:Int)+1:=by omega
 have hk0:(0:Int)<=(k:Int):=by omega
 unfold Xo seF;rw[hk1];generalize LK ki a=as',LK ki b=bs' at*
 by_cases h:x=y
 ·subst h;simp -implicitDefEqProofs[seB,f70,hk,hk0,hx',hx2,hy',hy2,bz]
 ·have hne:(x != y)=true:=by simpa using h
  rw[if_neg h];simp -implicitDefEqProofs[seB,f70,hk,hk0,hx',hx2,hy',hy2,hne]
theorem P5 (ki:IntKind)(a b:List Int)(la:a.length<=1000000000)(hl:a.length=b.length) :
  ∃ r,Ex E0 (.loop seB) (Xo ki a b 0 .u) r/\((a=b/\r=(.exit 0,Xo ki a b a.length (.d (.v (.bool false)))))\/(a≠b/\r=(.ret,seF))):=by
 refine Ex.inv (S:=fun k:Nat=>Xo ki a b k .u) (fun k=>a.length-k) (fun k=>k<=a.length/\a.take k=b.take k) _ ?_ 0 ⟨by omega,by simp⟩;rintro k ⟨h1,h2⟩
 by_cases hk:k<a.length
 ·have hx:a[k]?=some (a[k]'hk):=Qa0 hk;have hy:b[k]?=some (b[k]'(by omega)):=Qa0 omK;have hr:=LF ki a b k _ _ la hx hy
  by_cases h:a[k]'hk=b[k]'(by omega)
  ·rw[if_pos h]at hr;refine .inl ⟨k+1,Ex.of hr,by omega,by omega,?_⟩;rw[Qp2 hk,Qp2 omK,h2,h]
  ·rw[if_neg h]at hr;refine .inr ⟨_,Ex.of hr,by simp,.inr ⟨?_,rfl⟩⟩;intro he;subst he;exact h rfl
 ·have he:k=a.length:=by omega
  subst he;rw[Qn1,hl,Qn1]at h2;refine .inr ⟨_,Ex.of (n:=60) ?_,?_,.inl ⟨h2,rfl⟩⟩
  ·unfold Xo;simp -implicitDefEqProofs[seB,f70]
  ·simp
theorem I6 (ki:IntKind)(a b:List Int)(la:a.length<=1000000000)(lb:b.length<=1000000000):Ca E0 70 [.d ((.s 1 (LK ki a))),.d ((.s 1 (LK ki b)))] (.d (.v (.bool (decide (a=b)))),none):=by
 have hla:(LK ki a).length=a.length:=by simp[LK]
 have hlb:(LK ki b).length=b.length:=by simp[LK]
 by_cases hl:a.length=b.length
 ·obtain⟨r,hr,h⟩:=P5 ki a b la hl;have abX:(LK ki b).length=a.length:=by omega
  have Tz:Ex E0 f70.body.l (st0 [.d ((.s 1 (LK ki a))),.d ((.s 1 (LK ki b))),.u,.u,.u,.u,.u,.u,.u] []) (.norm,(st0 [.d ((.s 1 (LK ki a))),.d ((.s 1 (LK ki b))),.u,.u,.u,.u,.u,.u,.u] [])):=by
   refine Ex.of (n:=40) ?_;simp -implicitDefEqProofs[f70]
  have TA:Ex E0 f70.body.r.l (st0 [.d ((.s 1 (LK ki a))),.d ((.s 1 (LK ki b))),.u,.u,.u,.u,.u,.u,.u] []) (.norm,(st0 [.d ((.s 1 (LK ki a))),.d ((.s 1 (LK ki b))),.u,.u,.d (.v (.bool false)),.u,.u,.u,.u] [])):=by
   refine Ex.of (n:=40) ?_;simp -implicitDefEqProofs[f70,hla,abX]
  have TB:Ex E0 f70.body.r.r.l.l (st0 [.d ((.s 1 (LK ki a))),.d ((.s 1 (LK ki b))),.u,.u,.d (.v (.bool false)),.u,.u,.u,.u] []) (.norm,Xo ki a b 0 .u):=by
   refine Ex.of (n:=40) ?_;unfold Xo;simp -implicitDefEqProofs[f70,hla]
  rcases h with ⟨he,rfl⟩|⟨he,rfl⟩
  ·have hd:decide (a=b)=true:=by simpa using he
   rw[hd];refine Ca.body (o:=.ret) (st1:=(st0 [.u,.u,.d (.v (.bool true)),.u,.u,.u,.u,.u,.u] [])) rfl (k70:E0.fn _=_) rfl ?_ (by intro id h;cases h) ?_
   ·show Ex E0 (.seq f70.body.l (.seq f70.body.r.l (.seq (.seq f70.body.r.r.l.l (.block 0 (.loop seB))) f70.body.r.r.r))) _ _;refine Tz.seq (TA.seq ((TB.seq hr.block).seq (Ex.of (n:=40) ?_)));unfold Xo;simp -implicitDefEqProofs[f70]
   ·simp -implicitDefEqProofs[f70]
  ·have hd:decide (a=b)=false:=by simpa using he
   rw[hd];refine Ca.body (o:=.ret) (st1:=seF) rfl (k70:E0.fn _=_) rfl ?_ (by intro id h;cases h) ?_
   ·show Ex E0 (.seq f70.body.l (.seq f70.body.r.l (.seq (.seq f70.body.r.r.l.l (.block 0 (.loop seB))) f70.body.r.r.r))) _ _;exact Tz.seq (TA.seq (Ex.dG (TB.seq hr.b_)))
   ·simp -implicitDefEqProofs[f70,seF]
 ·have hd:decide (a=b)=false:=by
   simp only[decide_eq_false_iff_not];intro he;subst he;exact hl rfl
  have hne:((a.length:Int) != (b.length:Int))=true:=by simp;omega
  rw[hd];refine Ca.bO (n:=60) ?_;rw[av rfl (k70:E0.fn _=_) rfl];generalize LK ki a=as',LK ki b=bs' at*;simp -implicitDefEqProofs[f70,hla,hlb,hne]
theorem I7 (l:List Nat):LL l=LK .u32 (l.map fun(x:Nat)=>(x:Int)):=by simp[LL,LK]
theorem oW {a b:List Nat}:(a.map fun(x:Nat)=>(x:Int))=(b.map fun(x:Nat)=>(x:Int))↔a=b:=by
 constructor
 ·intro h;exact(X31 (fun x y h=>by exact_mod_cast h)).1 h
 ·rintro rfl;rfl
theorem Od (a b:List Nat)(la:a.length<=1000000000)(lb:b.length<=1000000000):Ca E0 101 [.d (LD a),.d (LD b)] (.d (.v (.bool (decide (a=b)))),none):=by
 have h:=I6 .u32 (a.map fun(x:Nat)=>(x:Int)) (b.map fun(x:Nat)=>(x:Int)) (by simpa using la) (by simpa using lb);have e:decide ((a.map fun(x:Nat)=>(x:Int))=(b.map fun(x:Nat)=>(x:Int)))=decide (a=b):=by simp only[oW]
 rw[e]at h;simp only[LD,I7];exact Ca.same ((k101:E0.fn _=_).trans (k70:E0.fn _=_).symm) rfl rfl h
theorem BH (s1 s2:Bool)(a1 b1 a2 b2:List Nat)(h1:a1.length<=1000000000)(h2:b1.length<=1000000000)(h3:a2.length<=1000000000)(h4:b2.length<=1000000000) :
  Ca E0 72 [.d (raw s1 a1 b1),.d (raw s2 a2 b2)] (.d (.v (.bool (s1==s2&&decide (a1=a2)&&decide (b1=b2)))),none):=by
 obtain⟨Kq,_,t1,t2⟩:=((Od a1 a2 h1 h3).j ((Od b1 b2 h2 h4).any)).at 0;generalize Kq=N at*;refine Ca.bO (n:=N+60) ?_;rw[av rfl (k72:E0.fn _=_) rfl];generalize decide (a1=a2)=p,decide (b1=b2)=q at*;simp only[raw,LD]at*;generalize LL a1=x1,LL a2=x2,LL b1=y1,LL b2=y2 at*;cases s1<;>cases s2<;>cases p<;>simp -implicitDefEqProofs[f72,t1,t2]
def LG:aG:=f78.body.r.r.l.r.bl.lp
def El (a b:List Nat)(k:Nat)(t:FV):St:=(st0 [.d (LD a),.d (LD b),.u,.d (.v (.int .i64 k)),.u,t,.u] [])
def TC:St:=(st0 [.u,.u,.d (.v (.bool false)),.u,.u,.u,.u] [])
theorem LH (a b:List Nat)(k x y:Nat)(la:a.length<=1000000000)(hx:a[k]?=some x)(hy:b[k]?=some y) :
  EX E0 60 LG (El a b k .u)=if x=y then some (.norm,El a b (k+1) .u) else some (.ret,TC):=by
 have hk:=(bD hx)
 have hla:(LL a).length=a.length:=by simp[LL]
 have hx':(LL a)[k]?=some (.v (.int .u32 (x:Int))):=by simp[LL,hx]
 have hy':(LL b)[k]?=some (.v (.int .u32 (y:Int))):=by simp[LL,hy]
 have hx2:=idx hx';have hy2:=idx hy';have bz:ah .i64 ((k:Int)+1)=(k:Int)+1:=wrap_i64 omK;have hk1:((k+1:Nat):Int)=(k:Int)+1:=by omega
 have hk0:(0:Int)<=(k:Int):=by omega
 have hkb:k<(LL b).length:=by simpa[LL] using(bD hy)
 unfold El TC;rw[hk1];simp only[LD];generalize LL a=as',LL b=bs' at*
 by_cases h:x=y
 ·subst h;simp -implicitDefEqProofs[LG,f78,hla,hk,hk0,hkb,hx',hx2,hy',hy2,bz]
 ·have hne:((x:Int) != (y:Int))=true:=by simp;omega
  rw[if_neg h];simp -implicitDefEqProofs[LG,f78,hla,hk,hk0,hkb,hx',hx2,hy',hy2,hne]
theorem P6 (a b:List Nat)(la:a.length<=1000000000)(hl:a.length=b.length) :
  ∃ r,Ex E0 (.loop LG) (El a b 0 .u) r/\((a=b/\r=(.exit 0,El a b a.length (.d (.v (.bool false)))))\/(a≠b/\r=(.ret,TC))):=by
 refine Ex.inv (S:=fun k:Nat=>El a b k .u) (fun k=>a.length-k) (fun k=>k<=a.length/\a.take k=b.take k) _ ?_ 0 ⟨by omega,by simp⟩;rintro k ⟨h1,h2⟩
 by_cases hk:k<a.length
 ·have hx:a[k]?=some (a[k]'hk):=Qa0 hk;have hy:b[k]?=some (b[k]'(by omega)):=Qa0 omK;have hr:=LH a b k _ _ la hx hy
  by_cases h:a[k]'hk=b[k]'(by omega)
  ·rw[if_pos h]at hr;refine .inl ⟨k+1,Ex.of hr,by omega,by omega,?_⟩;rw[Qp2 hk,Qp2 omK,h2,h]
  ·rw[if_neg h]at hr;refine .inr ⟨_,Ex.of hr,by simp,.inr ⟨?_,rfl⟩⟩;intro he;subst he;exact h rfl
 ·have he:k=a.length:=by omega
  subst he;have hla:(LL a).length=a.length:=by simp[LL]
  rw[Qn1,hl,Qn1]at h2;refine .inr ⟨_,Ex.of (n:=60) ?_,?_,.inl ⟨h2,rfl⟩⟩
  ·unfold El;simp only[LD];generalize LL a=as' at*;generalize LL b=bs' at*;generalize a.length=m at*;simp -implicitDefEqProofs[LG,f78,hla]
  ·simp
theorem Oe (a b:List Nat)(la:a.length<=1000000000)(lb:b.length<=1000000000):Ca E0 78 [.d (LD a),.d (LD b)] (.d (.v (.bool (decide (a=b)))),none):=by
 have hla:(LL a).length=a.length:=by simp[LL]
 have hlb:(LL b).length=b.length:=by simp[LL]
 by_cases hl:a.length=b.length
 ·obtain⟨r,hr,h⟩:=P6 a b la hl;have abX:(LL b).length=a.length:=by omega
  have Tz:Ex E0 f78.body.l (st0 [.d (LD a),.d (LD b),.u,.u,.u,.u,.u] []) (.norm,(st0 [.d (LD a),.d (LD b),.u,.u,.u,.u,.u] [])):=by
   refine Ex.of (n:=40) ?_;simp -implicitDefEqProofs[f78]
  have TA:Ex E0 f78.body.r.l (st0 [.d (LD a),.d (LD b),.u,.u,.u,.u,.u] []) (.norm,(st0 [.d (LD a),.d (LD b),.u,.u,.d (.v (.bool false)),.u,.u] [])):=by
   refine Ex.of (n:=40) ?_;simp -implicitDefEqProofs[f78,LD,hla,abX]
  have TB:Ex E0 f78.body.r.r.l.l (st0 [.d (LD a),.d (LD b),.u,.u,.d (.v (.bool false)),.u,.u] []) (.norm,El a b 0 .u):=by
   refine Ex.of (n:=40) ?_;unfold El;simp -implicitDefEqProofs[f78,LD,hla]
  rcases h with ⟨he,rfl⟩|⟨he,rfl⟩
  ·have hd:decide (a=b)=true:=by simpa using he
   rw[hd];refine Ca.body (o:=.ret) (st1:=(st0 [.u,.u,.d (.v (.bool true)),.u,.u,.u,.u] [])) rfl (k78:E0.fn _=_) rfl ?_ (by intro id h;cases h) ?_
   ·show Ex E0 (.seq f78.body.l (.seq f78.body.r.l (.seq (.seq f78.body.r.r.l.l (.block 0 (.loop LG))) f78.body.r.r.r))) _ _;refine Tz.seq (TA.seq ((TB.seq hr.block).seq (Ex.of (n:=40) ?_)));unfold El;simp -implicitDefEqProofs[f78]
   ·simp -implicitDefEqProofs[f78]
  ·have hd:decide (a=b)=false:=by simpa using he
   rw[hd];refine Ca.body (o:=.ret) (st1:=TC) rfl (k78:E0.fn _=_) rfl ?_ (by intro id h;cases h) ?_
   ·show Ex E0 (.seq f78.body.l (.seq f78.body.r.l (.seq (.seq f78.body.r.r.l.l (.block 0 (.loop LG))) f78.body.r.r.r))) _ _;exact Tz.seq (TA.seq (Ex.dG (TB.seq hr.b_)))
   ·simp -implicitDefEqProofs[f78,TC]
 ·have hd:decide (a=b)=false:=by
   simp only[decide_eq_false_iff_not];intro he;subst he;exact hl rfl
  have hne:((a.length:Int) != (b.length:Int))=true:=by simp;omega
  rw[hd];refine Ca.bO (n:=60) ?_;rw[av rfl (k78:E0.fn _=_) rfl];simp only[LD];generalize LL a=as',LL b=bs' at*;simp -implicitDefEqProofs[f78,hla,hlb,hne]
theorem mK (s1 s2:Bool)(a1 b1 a2 b2:List Nat)(h1:a1.length<=1000000000)(h2:b1.length<=1000000000)(h3:a2.length<=1000000000)(h4:b2.length<=1000000000) :
  Ca E0 39 [.d (raw s1 a1 b1),.d (raw s2 a2 b2)] (.d (.v (.bool (s1==s2&&decide (a1=a2)&&decide (b1=b2)))),none):=by
 obtain⟨Kq,_,t1,t2⟩:=((Oe a1 a2 h1 h3).j ((Oe b1 b2 h2 h4).any)).at 0;generalize Kq=N at*;refine Ca.bO (n:=N+60) ?_;rw[av rfl (k39:E0.fn _=_) rfl];generalize decide (a1=a2)=p,decide (b1=b2)=q at*;simp only[raw,LD]at*;generalize LL a1=x1,LL a2=x2,LL b1=y1,LL b2=y2 at*;cases s1<;>cases s2<;>cases p<;>simp -implicitDefEqProofs[f39,t1,t2]
theorem Yn (x y:Rat)(hx:qz x<=100000)(hy:qz y<=100000):Ca E0 62 [.d (qD x),.d (qD y)] (.d (qD (x-y)),none):=by
 obtain⟨Kq,_,t1,t2⟩:=((Ym y omK).j ((AJ x (-y) hx (by rw[abP];omega)).any)).at 0;rw[<-Rat.sub_eq_add_neg]at t2;generalize Kq=N at*;refine Ca.bO (n:=N+60) ?_;rw[av rfl (k62:E0.fn _=_) rfl];simp only[qD,raw,LD]at*;generalize qs (x-y)=sg,qs (-y)=s3,qs x=s1,qs y=s2,LL (qn (x-y))=x9,LL (qd (x-y))=y1,LL (qn (-y))=x8,LL (qd (-y))=y8,LL (qn x)=z1,LL (qn y)=z2,LL (qd x)=z3,LL (qd y)=z4 at*;simp -implicitDefEqProofs[f62,t1,t2]
theorem I8 (x y:Rat)(hx:qz x<=100000)(hy:qz y<=100000):Ca E0 93 [.d (qD x),.d (qD y)] (.d (.v (.int .i64 (x-y).num.sign)),none):=by
 obtain⟨k1,t1⟩:=(Yn x y hx hy).any;have:=Tn x y;obtain⟨k2,t2⟩:=(mI (x-y) omK).any;replace t1:=t1 (k1+k2) omK;replace t2:=t2 (k1+k2) omK;generalize k1+k2=N at*;refine Ca.bO (n:=N+60) ?_;rw[av rfl (k93:E0.fn _=_) rfl];generalize (x-y).num.sign=res at*;simp only[qD,raw,LD]at*;generalize qs (x-y)=sg,qs x=s1,qs y=s2,LL (qn (x-y))=x9,LL (qd (x-y))=y1,LL (qn x)=z1,LL (qn y)=z2,LL (qd x)=z3,LL (qd y)=z4 at*;simp -implicitDefEqProofs[f93,t1,t2]
theorem I9 (x y:Rat):((x-y).num.sign<0↔x<y)/\(0<(x-y).num.sign↔y<x):=by
 have h1:=Rat.lt_iff_sub_pos x y;have h2:=Rat.lt_iff_sub_pos y x;have p:∀ z:Rat,0<z↔0<z.num:=by
  intro z;constructor
  ·intro h;have a:=Rat.num_nonneg.2 (Rat.le_of_lt h);have b:z.num≠0:=by
    intro e;rw[Rat.num_eq_zero.1 e]at h;exact absurd h (by decide)
   omega
  ·intro h;have a:=Rat.num_nonneg.1 (show 0<=z.num by omega);have b:z≠0:=by
    intro e;rw[e]at h;exact absurd h (by decide)
   exact Rat.lt_of_le_of_ne a (Ne.symm b)
 have e:(y-x).num=-(x-y).num:=by
  rw[<-Rat.neg_num]
  congr 1
  grind
 rw[p,e]at h1;rw[p]at h2;rw[h1,h2];rcases Q81 (x-y).num 0 with h|h|h
 ·rw[Q10 h];omega
 ·rw[h];simp
 ·rw[Q80 h];omega
theorem I_ (x y:Rat)(hx:qz x<=100000)(hy:qz y<=100000):Ca E0 55 [.d (qD x),.d (qD y)] (.d (.v (.bool (decide (x<y)))),none):=by
 obtain⟨N,t⟩:=(I8 x y hx hy).get;have e:decide ((x-y).num.sign<0)=decide (x<y):=by simp only[(I9 x y).1]
 rw[<-e];refine Ca.bO (n:=N+60) ?_;rw[av rfl (k55:E0.fn _=_) rfl];generalize (x-y).num.sign=res at*;simp only[qD,raw,LD]at*;generalize qs x=s1,qs y=s2,LL (qn x)=z1,LL (qn y)=z2,LL (qd x)=z3,LL (qd y)=z4 at*;simp -implicitDefEqProofs[f55,t]
theorem wK (n:Nat)(v:Int)(hv:-9223372036854775808<=v/\v<9223372036854775808):CL E0 (n+40) 107 [.d (.v (.int .i64 v))] []=some (.d (.v (.int .u64 v.natAbs)),none):=by
 rw[av rfl (k107:E0.fn _=_) rfl]
 by_cases h:v<0
 ·have w1:ah .i64 (v+1)=v+1:=wrap_i64 omK;have w2:IntKind.wrap .i64 (-(v+1))=-(v+1):=by rw[<-cK];exact wrap_i64 omK
  have w3:ah .u64 (-(v+1))=-(v+1):=wrap_u64 omK;have w4:ah .u64 (-(v+1)+1)=(v.natAbs:Int):=by rw[wrap_u64 omK];omega
  generalize v.natAbs=va at*;simp -implicitDefEqProofs[f107,h,w1,w2,w3,w4]
 ·have w1:ah .u64 v=(v.natAbs:Int):=by rw[f_];omega
  generalize v.natAbs=va at*;simp -implicitDefEqProofs[f107,h,w1]
theorem BI (v:Nat)(hv:v<18446744073709551616):Ca E0 106 [.d (.v (.int .u64 v))] (.d (LD (enc v)),none):=by
 obtain⟨n0,hc⟩:=(wG [v % 4294967296,v / 4294967296] (by simp)).get;rw[Ob hv]at hc;have w2:ah .u32 (v:Int)=((v % 4294967296:Nat):Int):=by rw[dH];omega
 have w3:Int.fdiv (v:Int) 4294967296=((v / 4294967296:Nat):Int):=by
  rw[Qm1 _ omK];omega
 have w4:ah .u32 ((v / 4294967296:Nat):Int)=((v / 4294967296:Nat):Int):=wrap_u32 omK;refine Ca.bO (n:=n0+60) ?_;rw[av rfl (k106:E0.fn _=_) rfl];simp only[LD,LL,Qd2,Qc0]at hc ⊢;generalize List.map (fun(x:Nat)=>D.v (Value.int IntKind.u32 (x:Int))) (enc v)=res at*;generalize v / 4294967296=hi,v % 4294967296=lo at*;simp -implicitDefEqProofs[IntKind.bits,f106,w2,w3,w4,hc]
theorem TD (a b:Int)(ha:-9223372036854775808<=a/\a<9223372036854775808)(hb:-9223372036854775808<=b/\b<9223372036854775808)(h0:b≠0) :
  Ca E0 77 [.d (.v (.int .i64 a)),.d (.v (.int .i64 b))] (.d (.t [qD (rq a b),.v (.int .i64 0)]),none):=by
 have l1:=Gp ha;have l2:=Gp hb;have a1:=fun m=>wK m a ha
 have a2:=fun m=>wK m b hb
 obtain⟨Kq,_,t1,t2,t3⟩:=((BI a.natAbs omK).j ((BI b.natAbs omK).j ((BF (s:=decide (a<0) != decide (b<0)) (n:=a.natAbs) (d:=b.natAbs) omK omK omK).any))).at 0;have e:wC (decide (a<0) != decide (b<0)) a.natAbs b.natAbs=rq a b:=rfl;rw[e]at t3;generalize Kq=N at*;refine Ca.bO (n:=N+80) ?_;rw[av rfl (k77:E0.fn _=_) rfl];have hb0:(b==0)=false:=by simpa using h0
 simp only[qD,raw,LD]at*;generalize LL (qn (rq a b))=x9,LL (qd (rq a b))=y1,qs (rq a b)=sg,LL (enc a.natAbs)=x1,LL (enc b.natAbs)=x2 at*;generalize a.natAbs=na,b.natAbs=nb at*;simp only[bne]at t3;simp -implicitDefEqProofs[f77,uC,a1,a2,t1,t2,t3,hb0]
theorem BJ (a b:Int)(ha:-9223372036854775808<=a/\a<9223372036854775808)(hb:-9223372036854775808<=b/\b<9223372036854775808)(h0:b≠0) :
  Ca E0 38 [.d (.v (.int .i64 a)),.d (.v (.int .i64 b))] (.d (qD (rq a b)),none):=by
 obtain⟨N,t⟩:=(TD a b ha hb h0).get;refine Ca.bO (n:=N+80) ?_;rw[av rfl (k38:E0.fn _=_) rfl];simp only[qD,raw,LD]at*;generalize LL (qn (rq a b))=x9,LL (qd (rq a b))=y1,qs (rq a b)=sg at*;simp -implicitDefEqProofs[f38,uC,t]
end Fi.S
