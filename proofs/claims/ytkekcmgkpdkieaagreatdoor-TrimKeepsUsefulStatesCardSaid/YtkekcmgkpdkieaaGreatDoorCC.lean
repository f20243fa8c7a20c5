import Derived.Test.YtkekcmgkpdkieaaGreatDoorCB
set_option linter.unusedVariables false
set_option linter.unusedSimpArgs false
noncomputable section
namespace Fi.S
open Go Fi
set_option maxHeartbeats 8000000
theorem Ca.same {E:Env}{g g':Nat}{args:List FV}{r:FV × Option (List ai)}(hf:E.fn g'=E.fn g)(hp:E.iK g=none)(hp':E.iK g'=none)(h:Ca E g args r)(hB:E.iC g'=E.iC g:=by rfl):Ca E g' args r:=by
 obtain⟨n0,h⟩:=h;refine⟨n0+1,fun n hn => ?_⟩;obtain⟨m,rfl⟩:∃ m,n=m+1:=⟨n-1,ae⟩
 rw[<-h (m+1) ae];simp only[dx,enter,hf,hp,hp',hB]
theorem vk (l:List Nat)(hl:l.length<=1000000000):Ca E0 169 [.d (LD l)] (.d (LD (trim l)),none) :=
 Ca.same (g:=231) ((aN 169 f169:E0.fn _=_).trans (k231:E0.fn _=_).symm) rfl rfl (gQ l hl)
theorem vz (n:Nat)(l:List Nat)(hl:l.length<=1000000000)(i:Nat)(hi:i<=1000000000)(hb:∀ x ∈ l,x<4294967296) :
  CL E0 (n+30) 173 [.d (LD l),dI i] []=some (.d (.v (.int .u64 (bC l i))),none):=by
 rw[aB rfl (aN 173 f173:E0.fn _=_) rfl]
 by_cases h:i<l.length
 ·have h1:¬ ((i:Int) ≥ (l.length:Int)):=ae;have h2:¬ ((l.length:Int)<=(i:Int)):=ae;have h3:¬ (l.length<=i):=ae;have hx:l[i]?=some l[i]:=Qa1 h;have hw:av .u64 (l[i]:Int)=(l[i]:Int):=wrap_u64 (by have:=hb l[i] (Qj1 h);omega);have ha:bC l i=l[i]:=by simp[bC,hx]
  simp[f173,LD,LL,h,h1,h2,h3,hx,hw,ha]
 ·have h1:((i:Int) ≥ (l.length:Int)):=ae;have h2:l.length<=i:=ae;have ha:bC l i=0:=by simp[bC,Qq2 (Nat.le_of_not_lt h)]
  simp[f173,LD,LL,h1,h2,ha]
theorem G7 (n:Nat)(v:Int):CL E0 (n+30) 174 [dI v] []=some (dI v.sign,none):=by
 rw[aB rfl (aN 174 f174:E0.fn _=_) rfl];rcases Q52 v 0 with h|h|h
 ·rw[Qz1 h];simp[f174,h]
 ·rw[h];simp[f174]
 ·have h2:¬ v<0:=ae;rw[Q51 h];simp[f174,h,h2]
theorem Ai (n:Nat)(l:List Nat):CL E0 (n+30) 172 [.d (LD l)] []=some (dB (decide (l=[1])),none):=by
 rw[aB rfl (aN 172 f172:E0.fn _=_) rfl]
 match l with
 | []=>simp[f172,LD,LL]
 | [x] =>
  by_cases h:x=1
  ·subst h;simp[f172,LD,LL]
  ·have h2:((x:Int)==1)=false:=by simp;omega
   simp[f172,LD,LL,h,h2]
 | x::y::r =>
  have h2:(((r.length:Int)+1+1)==1)=false:=by simp;omega
  have h3:(((r.length:Int)+1)==0)=false:=by simp;omega
  simp[f172,LD,LL,h2,h3]
def ZB:aF:=f91.body.r.r.l.r.bl.lp
def Qj (a b:List Nat)(k:Int)(t:FV):St:=(st0 [.d (LD a),.d (LD b),.u,dI k,.u,t,.u] [])
def ZC (s:Int):St:=(st0 (.u::.u::dI s::mO) [])
theorem Ra (a b:List Nat):EX E0 40 ZB (Qj a b (-1) .u)=some (.exit 0,Qj a b (-1) (dB false)):=by
 unfold Qj;simp only[LD];generalize LL a=as',LL b=bs at*;simp[ZB,f91]
theorem J5 (a b:List Nat)(k x y:Nat)(hk:k<=1000000000)(hx:a[k]?=some x)(hy:b[k]?=some y)(hxl:x<4294967296)(hyl:y<4294967296) :
  EX E0 80 ZB (Qj a b k .u)=if x=y then some (.norm,Qj a b ((k:Int)-1) .u) else some (.ret,ZC ((x:Int)-(y:Int)).sign):=by
 have hxa:(LL a)[k]?=some (.v (.int .u32 (x:Int))):=by simp[LL,hx]
 have hxb:(LL b)[k]?=some (.v (.int .u32 (y:Int))):=by simp[LL,hy]
 have ha:k<(LL a).length:=by simpa[LL] using(aS hx)
 have hb:k<(LL b).length:=by simpa[LL] using(aS hy)
 have hdec:av .i64 ((k:Int)-1)=(k:Int)-1:=wrap_i64 ae;have hk0:(0:Int)<=(k:Int):=ae;have w1:av .i64 (x:Int)=(x:Int):=wrap_i64 ae;have w2:av .i64 (y:Int)=(y:Int):=wrap_i64 ae;have w3:av .i64 ((x:Int)-(y:Int))=(x:Int)-(y:Int):=wrap_i64 ae;have hs:=G7;unfold Qj ZC;simp only[LD];generalize LL a=as',LL b=bs at*;have i1:=idx hxa;have i2:=idx hxb
 by_cases h:x=y
 ·rw[if_pos h];subst h;simp[ZB,f91,hk0,ha,hb,hxa,hxb,i1,i2,hdec]
 ·have hne:((x:Int) != (y:Int))=true:=by simp;omega
  rw[if_neg h];simp[ZB,f91,hk0,ha,hb,hxa,hxb,i1,i2,hne,w1,w2,w3,hs]
theorem xz (l:List Nat)(k:Nat):val l=bW l k+4294967296 ^ k*val (l.drop k):=by
 unfold bW;rcases Nat.le_total k l.length with h|h
 ·conv=>lhs;rw[<-Xc0 k l,val_append,Ql2,X10 h]
 ·rw[Qe0 h,gU h,Nat.mul_zero,Q42]
theorem NL (a b:List Nat)(ha:bP a)(hb:bP b)(hl:a.length=b.length)(hm:a.length<=1000000000) :
  ∃ r,Ex E0 (.loop ZB) (Qj a b ((a.length:Int)-1) .u) r/\((r=(.exit 0,Qj a b (-1) (dB false))/\val a=val b)\/∃ s,r=(.ret,ZC s)/\s=dH (val a) (val b)):=by
 refine Ex.inv (S:=fun j:Nat=>Qj a b ((j:Int)-1) .u) (fun j=>j) (fun j=>j<=a.length/\val (a.drop j)=val (b.drop j)) _ ?_ a.length ?_
 ·rintro j ⟨h1,h2⟩;cases j with
  | zero =>
   refine .inr ⟨_,?_,aC,.inl ⟨rfl,by simpa using h2⟩⟩;have:=Ra a b;simpa using Ex.of this
  | succ k =>
   have hx:a[k]?=some (a[k]'(by omega)):=Qa1 ae;have hy:b[k]?=some (b[k]'(by omega)):=Qa1 ae;have ex:bC a k=a[k]'(by omega):=by simp[bC,hx]
   have ey:bC b k=b[k]'(by omega):=by simp[bC,hy]
   have hxl:=ha _ (Qj1 (show k<a.length by omega));have hyl:=hb _ (Qj1 (show k<b.length by omega));generalize a[k]'(by omega)=x,b[k]'(by omega)=y at*;have hr:=J5 a b k x y ae hx hy hxl hyl;simp only[show(((k+1:Nat):Int)-1)=(k:Int) by omega];have da:=iJ a k;have db:=iJ b k
   by_cases h:x=y
   ·rw[if_pos h]at hr;refine .inl ⟨k,Ex.of hr,ae,ae,?_⟩;rw[da,db,ex,ey,h,h2]
   ·rw[if_neg h]at hr;refine .inr ⟨_,Ex.of hr,aC,.inr ⟨_,rfl,?_⟩⟩;have sa:=xz a k;have sb:=xz b k;rw[da,ex]at sa;rw[db,ey,<-h2]at sb;have la:=nP ha k;have lb:=nP hb k;unfold dH;rcases Nat.lt_or_gt_of_ne h with hlt|hgt
    ·have:=jk (va:=bW a k) (vb:=bW b k) (P:=4294967296 ^ k) (x:=x+4294967296*val (a.drop (k+1))) (y:=y+4294967296*val (a.drop (k+1))) la ae;rw[if_pos ae,Qz1 ae]
    ·have:=jk (va:=bW b k) (vb:=bW a k) (P:=4294967296 ^ k) (x:=y+4294967296*val (a.drop (k+1))) (y:=x+4294967296*val (a.drop (k+1))) lb ae;rw[if_neg ae,if_neg ae,Q51 ae]
 ·exact⟨Qd1 _,by rw[gU (Qd1 _),gU ae]⟩
theorem Md (a b:Nat)(la:sz a<=1000000000)(lb:sz b<=1000000000):Ca E0 91 [.d (LD (enc a)),.d (LD (enc b))] (dI (dH a b),none):=by
 unfold sz at la lb;have t_:(LL (enc a)).length=(enc a).length:=by simp[LL]
 have CU:(LL (enc b)).length=(enc b).length:=by simp[LL]
 by_cases hl:(enc a).length=(enc b).length
 ·obtain⟨r,hloop,hq⟩:=NL (enc a) (enc b) (aU a) (aU b) hl la;rw[aV,aV]at hq;have hdec:av .i64 (((enc a).length:Int)-1)=((enc a).length:Int)-1:=wrap_i64 ae;have hA:Ex E0 f91.body.l (st0 (.d (LD (enc a))::.d (LD (enc b))::iO) []) (.norm,(st0 (.d (LD (enc a))::.d (LD (enc b))::iO) [])):=by
   refine Ex.of (n:=40) ?_;simp[f91]
  have hB:Ex E0 f91.body.r.l (st0 (.d (LD (enc a))::.d (LD (enc b))::iO) []) (.norm,(st0 [.d (LD (enc a)),.d (LD (enc b)),.u,.u,dB false,.u,.u] [])):=by
   refine Ex.of (n:=40) ?_;simp only[LD];generalize LL (enc a)=as',LL (enc b)=bs at*;simp[f91,t_,CU,hl]
  have hC:Ex E0 f91.body.r.r.l.l (st0 [.d (LD (enc a)),.d (LD (enc b)),.u,.u,dB false,.u,.u] []) (.norm,Qj (enc a) (enc b) (((enc a).length:Int)-1) .u):=by
   refine Ex.of (n:=40) ?_;unfold Qj;simp only[LD];generalize LL (enc a)=as',LL (enc b)=bs,(enc a).length=m at*;simp[f91,t_,hdec]
  rcases hq with ⟨rfl,he⟩|⟨s,rfl,rfl⟩
  ·subst he;have e0:dH a a=0:=by simp[dH]
   rw[e0];refine Ca.body (o:=.ret) (st1:=ZC 0) rfl (k91:E0.fn _=_) rfl ?_ (by intro id h;cases h) (by unfold ZC;simp[f91]);show Ex E0 (.seq f91.body.l (.seq f91.body.r.l (.seq (.seq f91.body.r.r.l.l (.block 0 (.loop ZB))) f91.body.r.r.r))) _ _;refine hA.seq (hB.seq ((hC.seq hloop.block).seq (Ex.of (n:=40) ?_)));unfold Qj ZC;simp[f91]
  ·refine Ca.body (o:=.ret) (st1:=ZC (dH a b)) rfl (k91:E0.fn _=_) rfl ?_ (by intro id h;cases h) (by unfold ZC;simp[f91]);show Ex E0 (.seq f91.body.l (.seq f91.body.r.l (.seq (.seq f91.body.r.r.l.l (.block 0 (.loop ZB))) f91.body.r.r.r))) _ _;exact hA.seq (hB.seq ((hC.seq hloop.bG).bN))
 ·have hw:av .i64 (((enc a).length:Int)-((enc b).length:Int))=((enc a).length:Int)-((enc b).length:Int):=wrap_i64 ae;have hs:=G7;have hc:(((enc a).length:Int)-((enc b).length:Int)).sign=dH a b:=by
   have ga:=xk a;have gb:=xk b;unfold dH;rcases Nat.lt_or_gt_of_ne hl with h|h
   ·have hb0:0<b:=by
     rcases Qq0 b with e|e
     ·rw[e,df]at h;simp at h
     ·exact e
    have h2:=JX hb0;have h3:=Qu2 (n:=4294967296) ae (show(enc a).length<=(enc b).length-1 by omega);rw[if_pos ae,Qz1 ae]
   ·have ha0:0<a:=by
     rcases Qq0 a with e|e
     ·rw[e,df]at h;simp at h
     ·exact e
    have h2:=JX ha0;have h3:=Qu2 (n:=4294967296) ae (show(enc b).length<=(enc a).length-1 by omega);rw[if_neg ae,if_neg ae,Q51 ae]
  have hne:(((enc a).length:Int) != ((enc b).length:Int))=true:=by simp;omega
  refine Ca.bO (n:=90) ?_;rw[aB rfl (k91:E0.fn _=_) rfl];rw[<-hc];simp only[LD];generalize LL (enc a)=as',LL (enc b)=bs,(enc a).length=m1,(enc b).length=m2 at*;simp[f91,t_,CU,hne,hw,hs]
def wpB:aF:=f90.body.r.r.r.l.r.bl.lp
def wpS (a b o:List Nat)(k s:Nat)(t:FV):St:=(st0 [.d (LD a),.d (LD b),.u,dM k,.d (.v (.int .u64 s)),dI k,.u,t] (dN k (LL o)))
theorem NM (a b o:List Nat)(k s:Nat)(hc:¬ k<=max a.length b.length):EX E0 60 wpB (wpS a b o k s .u)=some (.exit 0,wpS a b o k s (dB false)):=by
 have t_:(LL a).length=a.length:=by simp[LL]
 have CU:(LL b).length=b.length:=by simp[LL]
 have hmax:(if a.length<b.length then(b.length:Int) else(a.length:Int))=((max a.length b.length:Nat):Int):=by split<;>omega
 unfold wpS;simp only[LD];generalize dM k=ov,dN k (LL o)=oh,LL a=as',LL b=bs,max a.length b.length=mm at*;simp[wpB,f90,t_,CU,hmax,hc]
theorem G8 (a b o:List Nat)(k s:Nat)(hk:k<=1000000000)(la:a.length<=1000000000)(lb:b.length<=1000000000)(ha:bP a)(hb:bP b)(ho:o.length=k)(hs:s<4294967296)(hc:k<=max a.length b.length) :
  EX E0 80 wpB (wpS a b o k s .u)=some (.norm,wpS a b (o++[(bC a k+bC b k+s) % 4294967296]) (k+1) ((bC a k+bC b k+s) / 4294967296) .u):=by
 have h1:=fun m=>vz m a la k hk ha
 have h2:=fun m=>vz m b lb k hk hb
 have xa:=cz ha k;have xb:=cz hb k;have t_:(LL a).length=a.length:=by simp[LL]
 have CU:(LL b).length=b.length:=by simp[LL]
 have hmax:(if a.length<b.length then(b.length:Int) else(a.length:Int))=((max a.length b.length:Nat):Int):=by split<;>omega
 simp only[LD]at h1 h2;have aP:av .i64 ((k:Int)+1)=(k:Int)+1:=wrap_i64 ae;generalize bC a k=x,bC b k=y at*;have w1:av .u64 ((x:Int)+(y:Int))=(x:Int)+(y:Int):=wrap_u64 ae;have w2:av .u64 ((x:Int)+(y:Int)+(s:Int))=(x:Int)+(y:Int)+(s:Int):=wrap_u64 ae;have w3:av .u32 ((x:Int)+(y:Int)+(s:Int))=((x:Int)+(y:Int)+(s:Int)) % 4294967296:=dA _;have w4:Int.fdiv ((x:Int)+(y:Int)+(s:Int)) 4294967296=((x:Int)+(y:Int)+(s:Int)) / 4294967296:=Qm2 _ ae;have Qi:LL (o++[(x+y+s) % 4294967296])=LL o++[.v (.int .u32 (((x:Int)+(y:Int)+(s:Int)) % 4294967296))]:=by simp[LL]
 have hol:(LL o).length=k:=by simp[LL,ho]
 have hv1:dM (k+1)=.ls (.loc 0) k 1 0 (k+1):=by simp[dM]
 have C8:∀ l,dN (k+1) l=[.row k 1 l]:=by intro l;simp[dN]
 have hm1:(k+1)*4<=most:=by simp[most];omega
 have hm2:k+1<=most:=by simp[most];omega
 have htk:(LL o).take k=LL o:=Qe0 ae;have hk1:((k+1:Nat):Int)=(k:Int)+1:=ae;have hs1:(((x+y+s) / 4294967296:Nat):Int)=((x:Int)+(y:Int)+(s:Int)) / 4294967296:=ae;unfold wpS;rw[Qi,hv1,C8,hk1,hs1]
 by_cases hk0:k=0
 ·have hv:dM k=.d (.n 1):=by simp[dM,hk0]
  have hh:∀ l,dN k l=[]:=by intro l;simp[dN,hk0]
  have ho0:o=[]:=Qo1 ae;have hLo:LL o=[]:=by rw[ho0];rfl
  have hm3:1*4<=most:=by simp[most]
  have hm4:1<=most:=by simp[most]
  have hvk:FV.ls (.loc 0) 0 1 0 1=FV.ls (.loc 0) k 1 0 (k+1):=by rw[hk0]
  have hhk:∀ l,ai.row 0 1 l=ai.row k 1 l:=by intro l;rw[hk0]
  rw[hv,hh,hLo,<-hvk,<-hhk];simp only[LD];generalize LL a=as',LL b=bs,max a.length b.length=mm at*;simp[IntKind.bits,wpB,f90,t_,CU,hmax,hc,h1,h2,aP,w1,w2,w3,w4,hm4,most]
 ·have hv:dM k=.ls (.loc 0) (k-1) 1 0 k:=by simp[dM,hk0]
  have hh:∀ l,dN k l=[.row (k-1) 1 l]:=by intro l;simp[dN,hk0]
  have hk2:k-1+1=k:=ae;rw[hv,hh];simp only[LD];generalize LL a=as',LL b=bs,max a.length b.length=mm at*;simp[IntKind.bits,wpB,f90,t_,CU,hmax,hc,h1,h2,aP,w1,w2,w3,w4,hm1,hm2,hol,htk,hk2]
theorem J6 (a b:List Nat)(la:a.length<=100000000)(lb:b.length<=100000000)(ha:bP a)(hb:bP b) :
  ∃ r,Ex E0 (.loop wpB) (wpS a b [] 0 0 .u) r/\∃ o s,bP o/\val o=val a+val b/\o.length=max a.length b.length+1/\r=(.exit 0,wpS a b o o.length s (dB false)):=by
 refine Ex.inv (S:=fun t:List Nat × Nat × Nat=>wpS a b t.1 t.2.1 t.2.2 .u) (fun t=>max a.length b.length+2-t.2.1) (plI a b) _ ?_ ([],0,0) ?_
 ·rintro⟨o,k,s⟩ ⟨h1,h2,h3,h4,h5,h6⟩;simp only at h1 h2 h3 h4 h5 h6;have xa:=cz ha k;have xb:=cz hb k
  by_cases hc:k<=max a.length b.length
  ·have hr:=G8 a b o k s ae ae ae ha hb h1 h4 hc;refine .inl ⟨(o++[(bC a k+bC b k+s) % 4294967296],k+1,(bC a k+bC b k+s) / 4294967296),Ex.of hr,by simp only;omega,?_,?_,?_,?_,?_,?_⟩
   ·simp[h1]
   ·simp only;omega
   ·intro he;simp only at he ⊢;have e1:bC a k=0:=by unfold bC;rw[Qq2 ae];rfl
    have e2:bC b k=0:=by unfold bC;rw[Qq2 ae];rfl
    rw[e1,e2];omega
   ·simp only;omega
   ·exact gT h5 (fun x hx=>by simp at hx;subst hx;exact Qu0 _ ae)
   ·simp only;rw[val_append,h1,Qn1,<-h6,iJ a k,iJ b k];have hv:val [(bC a k+bC b k+s) % 4294967296]=(bC a k+bC b k+s) % 4294967296:=by simp[val]
    rw[hv];exact DD ae
  ·have hr:=NM a b o k s hc;refine .inr ⟨_,Ex.of hr,aC,o,s,h5,?_,ae,by rw[h1]⟩;rw[gU ae,gU ae]at h6;have:s=0:=h3 ae;subst this;simpa using h6
 ·refine⟨rfl,aC,?_,aC,?_,?_⟩
  ·simp
  ·intro x hx;cases hx
  ·simp[val]
theorem Aj (a b:List Nat)(la:a.length<=100000000)(lb:b.length<=100000000)(ha:bP a)(hb:bP b) :
  Ca E0 90 [.d (LD a),.d (LD b)] (.d (LD (enc (val a+val b))),none):=by
 obtain⟨r,hl,o,s,ho,hv,hol,rfl⟩:=J6 a b la lb ha hb;obtain⟨n0,hc⟩:=(vk o ae).get;rw[b_ ho,hv]at hc;have hlo:(LL o).length=o.length:=by simp[LL]
 have htk:(LL o).take o.length=LL o:=Qe0 ae;have hv1:dM o.length=.ls (.loc 0) (o.length-1) 1 0 o.length:=by unfold dM;rw[if_neg ae]
 have C8:∀ l,dN o.length l=[.row (o.length-1) 1 l]:=by intro l;unfold dN;rw[if_neg ae]
 generalize enc (val a+val b)=res at*;refine Ca.body (o:=.ret) (st1:=(st0 (.u::.u::.d (LD res)::iO) [.fU (o.length-1) 1 (LL o)])) rfl (aN 90 f90:E0.fn _=_) rfl ?_ (by intro id h;cases h) ?_
 ·show Ex E0 (.seq f90.body.l (.seq f90.body.r.l (.seq f90.body.r.r.l (.seq (.seq f90.body.r.r.r.l.l (.block 0 (.loop wpB))) f90.body.r.r.r.r)))) _ _;refine Ex.seq (st1:=(st0 (.d (LD a)::.d (LD b)::qm) [])) (Ex.of (n:=40) ?_)
   (Ex.seq (st1:=(st0 (.d (LD a)::.d (LD b)::.u::.d (.n 1)::mO) [])) (Ex.of (n:=40) ?_)
   (Ex.seq (st1:=(st0 [.d (LD a),.d (LD b),.u,.d (.n 1),.d (.v (.int .u64 0)),.u,.u,.u] [])) (Ex.of (n:=40) ?_)
   (Ex.seq (Ex.seq (st1:=wpS a b [] 0 0 .u) (Ex.of (n:=40) ?_) hl.block) (Ex.of (n:=n0+40) ?_))))
  ·simp[f90]
  ·simp[f90]
  ·simp[f90]
  ·simp[wpS,dM,dN,f90]
  ·unfold wpS;clear hl;simp only[LD]at hc ⊢;rw[hv1,C8];generalize o.length-1=m,LL o=es at*;generalize o.length=l at*;simp[ai.view,f90,hlo,htk,hc]
 ·simp[f90,LD]
def wmB:aF:=f92.body.r.r.r.l.r.bl.lp
def Qk (a b o:List Nat)(k s:Nat)(t:FV):St:=(st0 [.d (LD a),.d (LD b),.u,dM k,.d (.v (.int .u64 s)),dI k,.u,t] (dN k (LL o)))
theorem J7 (a b o:List Nat)(k s:Nat)(hc:¬ k<a.length):EX E0 60 wmB (Qk a b o k s .u)=some (.exit 0,Qk a b o k s (dB false)):=by
 have t_:(LL a).length=a.length:=by simp[LL]
 unfold Qk;simp only[LD];generalize dM k=ov,dN k (LL o)=oh,LL a=as',LL b=bs at*;simp[wmB,f92,t_,hc]
theorem Ff (a b o:List Nat)(k s s' d:Nat)(hk:k<a.length)(la:a.length<=1000000000)(lb:b.length<=1000000000)(ha:bP a)(hb:bP b)(ho:o.length=k)(hs:s<=1)
  (hd:d<4294967296) (hs':s'<=1) (hdig:bC a k+4294967296*s'=d+bC b k+s) :
  EX E0 80 wmB (Qk a b o k s .u)=some (.norm,Qk a b (o++[d]) (k+1) s' .u):=by
 have h1:=fun m=>vz m a la k ae ha
 have h2:=fun m=>vz m b lb k ae hb
 have xa:=cz ha k;have xb:=cz hb k;have t_:(LL a).length=a.length:=by simp[LL]
 simp only[LD]at h1 h2;have aP:av .i64 ((k:Int)+1)=(k:Int)+1:=wrap_i64 ae;generalize bC a k=x,bC b k=y at*;have w1:av .u64 ((x:Int)+4294967296)=(x:Int)+4294967296:=wrap_u64 ae;have w2:av .u64 ((x:Int)+4294967296-(y:Int))=(x:Int)+4294967296-(y:Int):=wrap_u64 ae;obtain⟨Z,hZ⟩:∃ Z:Nat,(Z:Int)=(x:Int)+4294967296-(y:Int)-(s:Int):=⟨x+4294967296-y-s,ae⟩
 have w3:av .u64 ((x:Int)+4294967296-(y:Int)-(s:Int))=(Z:Int):=by rw[wrap_u64 ae];omega
 have w4:av .u32 (Z:Int)=(d:Int):=by rw[dA];omega
 have w5:Int.fdiv (Z:Int) 4294967296=1-(s':Int):=by rw[Qm2 _ ae];omega
 have w6:av .u64 (1-(1-(s':Int)))=(s':Int):=by rw[wrap_u64 ae];omega
 clear hZ;have Qi:LL (o++[d])=LL o++[.v (.int .u32 (d:Int))]:=by simp[LL]
 have hol:(LL o).length=k:=by simp[LL,ho]
 have hv1:dM (k+1)=.ls (.loc 0) k 1 0 (k+1):=by simp[dM]
 have C8:∀ l,dN (k+1) l=[.row k 1 l]:=by intro l;simp[dN]
 have hm1:(k+1)*4<=most:=by simp[most];omega
 have hm2:k+1<=most:=by simp[most];omega
 have htk:(LL o).take k=LL o:=Qe0 ae;have hk1:((k+1:Nat):Int)=(k:Int)+1:=ae;unfold Qk;rw[Qi,hv1,C8,hk1]
 by_cases hk0:k=0
 ·have hv:dM k=.d (.n 1):=by simp[dM,hk0]
  have hh:∀ l,dN k l=[]:=by intro l;simp[dN,hk0]
  have ho0:o=[]:=Qo1 ae;have hLo:LL o=[]:=by rw[ho0];rfl
  have hm3:1*4<=most:=by simp[most]
  have hm4:1<=most:=by simp[most]
  have hvk:FV.ls (.loc 0) 0 1 0 1=FV.ls (.loc 0) k 1 0 (k+1):=by rw[hk0]
  have hhk:∀ l,ai.row 0 1 l=ai.row k 1 l:=by intro l;rw[hk0]
  rw[hv,hh,hLo,<-hvk,<-hhk];simp only[LD];generalize LL a=as',LL b=bs,a.length=mm at*;simp[IntKind.bits,wmB,f92,t_,hk,h1,h2,aP,w1,w2,w3,w4,w5,w6,hm4,most]
 ·have hv:dM k=.ls (.loc 0) (k-1) 1 0 k:=by simp[dM,hk0]
  have hh:∀ l,dN k l=[.row (k-1) 1 l]:=by intro l;simp[dN,hk0]
  have hk2:k-1+1=k:=ae;rw[hv,hh];simp only[LD];generalize LL a=as',LL b=bs,a.length=mm at*;simp[IntKind.bits,wmB,f92,t_,hk,h1,h2,aP,w1,w2,w3,w4,w5,w6,hm1,hm2,hol,htk,hk2]
theorem G9 (a b:List Nat)(la:a.length<=100000000)(lb:b.length<=a.length)(ha:bP a)(hb:bP b)(hab:val b<=val a) :
  ∃ r,Ex E0 (.loop wmB) (Qk a b [] 0 0 .u) r/\∃ o,bP o/\val o=val a-val b/\o.length=a.length/\r=(.exit 0,Qk a b o a.length 0 (dB false)):=by
 refine Ex.inv (S:=fun t:List Nat × Nat=>Qk a b t.1 t.1.length t.2 .u) (fun t=>a.length-t.1.length) (miI a b) _ ?_ ([],0) ?_
 ·rintro⟨o,s⟩ ⟨h1,h2,h3,h4⟩;simp only at h1 h2 h3 h4;have xa:=cz ha o.length;have xb:=cz hb o.length
  by_cases hk:o.length<a.length
  ·obtain⟨d,s',hd,hs',hdig⟩:∃ d s',d<4294967296/\s'<=1/\bC a o.length+4294967296*s'=d+bC b o.length+s:=by
    by_cases hc:bC b o.length+s<=bC a o.length
    ·exact⟨bC a o.length-(bC b o.length+s),0,ae,ae,ae⟩
    ·exact⟨bC a o.length+4294967296-(bC b o.length+s),1,ae,ae,ae⟩
   have hr:=Ff a b o o.length s s' d hk ae ae ha hb rfl h2 hd hs' hdig;refine .inl ⟨(o++[d],s'),?_,?_,?_,?_,?_,?_⟩
   ·simp only[Qb0,Qf2,Qw0];exact Ex.of hr
   ·simp only[Qb0,Qf2,Qw0];omega
   ·simp only[Qb0,Qf2,Qw0];omega
   ·exact hs'
   ·exact gT h3 (fun x hx=>by simp at hx;subst hx;exact hd)
   ·simp only[Qb0,Qf2,Qw0,Qy0];rw[dS,dS,val_append,Qn1];have hv:val [d]=d:=by simp[val]
    rw[hv];exact zX h4 hdig
  ·have he:o.length=a.length:=ae;rw[he,eU (Qd1 _),eU lb]at h4;have hlt:=nH h3;rw[he]at hlt;have hs0:s=0:=by
    rcases Qg2 s 1 with h|h
    ·omega
    ·have:s=1:=ae;subst this;generalize 4294967296 ^ a.length=p at*;omega
   subst hs0;refine .inr ⟨_,?_,?_,o,h3,ae,he,rfl⟩
   ·simp only[he];exact Ex.of (J7 a b o a.length 0 ae)
   ·simp
 ·refine⟨aC,aC,?_,?_⟩
  ·intro x hx;cases hx
  ·simp[val,bW]
theorem DN (a b:List Nat)(la:a.length<=100000000)(lb:b.length<=a.length)(ha:bP a)(hb:bP b)(hab:val b<=val a) :
  Ca E0 92 [.d (LD a),.d (LD b)] (.d (LD (enc (val a-val b))),none):=by
 obtain⟨r,hl,o,ho,hv,hol,rfl⟩:=G9 a b la lb ha hb hab;obtain⟨n0,hc⟩:=(vk o ae).get;rw[b_ ho,hv]at hc;have hlo:(LL o).length=a.length:=by simp[LL,hol]
 have htk:(LL o).take a.length=LL o:=Qe0 ae;generalize enc (val a-val b)=res at*;refine Ca.body (o:=.ret) (st1:=(st0 (.u::.u::.d (LD res)::iO) (if a.length=0 then [] else [.fU (a.length-1) 1 (LL o)]))) rfl (aN 92 f92:E0.fn _=_) rfl ?_ (by intro id h;cases h) ?_
 ·show Ex E0 (.seq f92.body.l (.seq f92.body.r.l (.seq f92.body.r.r.l (.seq (.seq f92.body.r.r.r.l.l (.block 0 (.loop wmB))) f92.body.r.r.r.r)))) _ _;refine Ex.seq (st1:=(st0 (.d (LD a)::.d (LD b)::qm) [])) (Ex.of (n:=40) ?_)
   (Ex.seq (st1:=(st0 (.d (LD a)::.d (LD b)::.u::.d (.n 1)::mO) [])) (Ex.of (n:=40) ?_)
   (Ex.seq (st1:=(st0 [.d (LD a),.d (LD b),.u,.d (.n 1),.d (.v (.int .u64 0)),.u,.u,.u] [])) (Ex.of (n:=40) ?_)
   (Ex.seq (Ex.seq (st1:=Qk a b [] 0 0 .u) (Ex.of (n:=40) ?_) hl.block) (Ex.of (n:=n0+40) ?_))))
  ·simp[f92]
  ·simp[f92]
  ·simp[f92]
  ·simp[Qk,dM,dN,f92]
  ·unfold Qk;clear hl
   by_cases h0:a.length=0
   ·have hLo:LL o=[]:=Qo1 ae;have ho0:o=[]:=Qo1 ae;have hv1:dM a.length=.d (.n 1):=by unfold dM;rw[if_pos h0]
    have C8:∀ l,dN a.length l=[]:=by intro l;unfold dN;rw[if_pos h0]
    rw[if_pos h0,hv1,C8];rw[ho0]at hc;simp only[LD,LL,Qc2]at hc ⊢;generalize List.map (fun(x:Nat)=>D.v (Value.int IntKind.u32 (x:Int))) res=rs at*;simp[f92,hc]
   ·have hv1:dM a.length=.ls (.loc 0) (a.length-1) 1 0 a.length:=by unfold dM;rw[if_neg h0]
    have C8:∀ l,dN a.length l=[.row (a.length-1) 1 l]:=by intro l;unfold dN;rw[if_neg h0]
    rw[if_neg h0,hv1,C8];simp only[LD]at hc ⊢;generalize a.length-1=m,LL o=es at*;generalize a.length=l at*;simp[ai.view,f92,hlo,htk,hc]
 ·simp[f92,LD]
def G_:aF:=f87.body.r.r.l.r.bl.lp
def wjB:aF:=G_.r.l.bl.r.l.r.bl.lp
def Rb (a b:List Nat)(es:List D)(n i c k:Nat)(t:FV):St:=(st0 [.d (LD a),.d (LD b),.u,.ls (.loc 0) 0 1 0 n,dI i,.d (.v (.int .u64 c)),dI k,.u,.u,t] [.row 0 1 es])
theorem aaW (a b:List Nat)(es:List D)(n i c:Nat):EX E0 60 wjB (Rb a b es n i c b.length .u)=some (.exit 2,Rb a b es n i c b.length (dB false)):=by
 have CU:(LL b).length=b.length:=by simp[LL]
 unfold Rb;simp only[LD];generalize LL a=as',LL b=bs,b.length=lb at*;simp[wjB,G_,f87,CU]
theorem Re (a b:List Nat)(es:List D)(n i c k x y p:Nat)(hx:a[i]?=some x)(hy:b[k]?=some y)(hp:es[i+k]?=some (.v (.int .u32 (p:Int))))(hn:es.length=n)
  (hxl:x<4294967296) (hyl:y<4294967296) (hpl:p<4294967296) (hcl:c<4294967296) (hi:i<=1000000000) (hk:k<=1000000000) :
  EX E0 90 wjB (Rb a b es n i c k .u)=some (.norm,Rb a b (es.set (i+k) (.v (.int .u32 (((x*y+p+c) % 4294967296:Nat):Int)))) n i ((x*y+p+c) / 4294967296) (k+1) .u):=by
 have hxa:(LL a)[i]?=some (.v (.int .u32 (x:Int))):=by simp[LL,hx]
 have hyb:(LL b)[k]?=some (.v (.int .u32 (y:Int))):=by simp[LL,hy]
 have ha:i<(LL a).length:=by simpa[LL] using(aS hx)
 have hb:k<(LL b).length:=by simpa[LL] using(aS hy)
 have hpn:i+k<n:=by rw[<-hn];exact(aS hp)
 have aP:av .i64 ((k:Int)+1)=(k:Int)+1:=wrap_i64 ae;have hk1:((k+1:Nat):Int)=(k:Int)+1:=ae;have hik:av .i64 ((i:Int)+(k:Int))=((i+k:Nat):Int):=by rw[wrap_i64 ae];omega
 have w1:av .u64 (x:Int)=(x:Int):=wrap_u64 ae;have w2:av .u64 (y:Int)=(y:Int):=wrap_u64 ae;have w3:av .u64 (p:Int)=(p:Int):=wrap_u64 ae;have hm:x*y<=4294967295*4294967295:=Xb2 ae ae;have hxy:(x:Int)*(y:Int)=((x*y:Nat):Int):=aC;obtain⟨M,hM⟩:∃ M,M=x*y:=⟨_,rfl⟩
 rw[<-hM]at hxy hm ⊢;have w4:av .u64 ((x:Int)*(y:Int))=(M:Int):=by rw[hxy];exact wrap_u64 ae
 have w5:av .u64 ((M:Int)+(p:Int))=((M+p:Nat):Int):=by rw[wrap_u64 ae];omega
 have w6:av .u64 (((M+p:Nat):Int)+(c:Int))=((M+p+c:Nat):Int):=by rw[wrap_u64 ae];omega
 obtain⟨T,hT⟩:∃ T,T=M+p+c:=⟨_,rfl⟩
 rw[<-hT]at w6 ⊢;have w7:av .u32 (T:Int)=((T % 4294967296:Nat):Int):=by rw[dA];omega
 have w8:Int.fdiv (T:Int) 4294967296=((T / 4294967296:Nat):Int):=by rw[Qm2 _ ae];omega
 clear hT hM hxy hm;unfold Rb;rw[hk1];generalize T % 4294967296=d,T / 4294967296=c' at*;simp only[LD];generalize LL a=as',LL b=bs,i+k=j,M+p=Mp at*;have i1:=idx hxa;have i2:=idx hyb;have i3:=idx hp;have hlt:j<es.length:=ae;simp[IntKind.bits,wjB,G_,f87,ha,hb,hxa,hyb,hp,i1,i2,i3,hpn,hn,aP,hik,w1,w2,w3,w4,w5,w6,w7,w8]
theorem NN (P:List Nat)(m j d:Nat)(hj:j<P.length):(LL (row0 P m)).set j (.v (.int .u32 (d:Int)))=LL (row0 (P.set j d) m):=by
 simp only[LL,row0,Qr0];rw[Qq1 _ _ (by simpa using hj),Q41]
theorem Rf (P:List Nat)(m j:Nat)(hj:j<P.length):(LL (row0 P m))[j]?=some (.v (.int .u32 ((bC P j:Nat):Int))):=by
 simp only[LL,row0,Qr0];rw[Qa0 (by simpa using hj)];simp[bC,Qa1 hj]
theorem WU {vP vP' Pj p d c c' x y V vb B:Nat}(h1:vP'+Pj*p=vP+Pj*d)(h2:x*y+p+c=d+B*c')(h3:vP+Pj*c=V):vP'+Pj*B*c'=V+Pj*(x*y):=by
 have:Pj*(x*y)+Pj*p+Pj*c=Pj*d+Pj*B*c':=by rw[Q32,<-Q92,<-Q92,h2,Q92]
 omega
theorem WV (a b P:List Nat)(m i x:Nat)(hx:a[i]?=some x)(la:a.length<=100000000)(lb:b.length<=100000000)(ha:bP a)(hb:bP b)(hP:bP P)(hl:P.length=i+b.length)(hv:val P=bW a i*val b) :
  ∃ r,Ex E0 (.loop wjB) (Rb a b (LL (row0 P m)) (i+b.length+m) i 0 0 .u) r /\
   ∃ Q c,bP Q/\Q.length=i+b.length/\c<4294967296/\val Q+4294967296 ^ (i+b.length)*c=bW a (i+1)*val b/\r=(.exit 2,Rb a b (LL (row0 Q m)) (i+b.length+m) i c b.length (dB false)):=by
 have hil:i<a.length:=(aS hx)
 have hxl:x<4294967296:=ha _ (Qb2 hx);have hxe:bC a i=x:=by simp[bC,hx]
 refine Ex.inv (S:=fun t:List Nat × Nat × Nat=>Rb a b (LL (row0 t.1 m)) (i+b.length+m) i t.2.1 t.2.2 .u) (fun t=>b.length-t.2.2)
  (fun t=>bP t.1/\t.1.length=i+b.length/\t.2.1<4294967296/\t.2.2<=b.length/\val t.1+4294967296 ^ (i+t.2.2)*t.2.1=val P+4294967296 ^ i*(x*bW b t.2.2)) _ ?_ (P,0,0) ?_
 ·rintro⟨Q,c,k⟩ ⟨h1,h2,h3,h4,h5⟩;simp only at h1 h2 h3 h4 h5
  by_cases hk:k<b.length
  ·have hy:b[k]?=some (b[k]'hk):=Qa1 hk;have hye:bC b k=b[k]'hk:=by simp[bC,hy]
   have hyl:=hb _ (Qj1 hk);generalize b[k]'hk=y at*;have hpl:bC Q (i+k)<4294967296:=cz h1 _;have hr:=Re a b (LL (row0 Q m)) (i+b.length+m) i c k x y (bC Q (i+k)) hx hy (Rf Q m _ ae) (by rw[qI];omega) hxl hyl hpl h3 ae ae;rw[NN _ _ _ _ ae]at hr;have hm:x*y<=4294967295*4294967295:=Xb2 ae ae;refine .inl ⟨(Q.set (i+k) ((x*y+bC Q (i+k)+c) % 4294967296),(x*y+bC Q (i+k)+c) / 4294967296,k+1),Ex.of hr,by simp only;omega,ET h1 (Qu0 _ ae),by simp[h2],by simp only;omega,by simp only;omega,?_⟩;simp only;have hs:=zw Q (i+k) ((x*y+bC Q (i+k)+c) % 4294967296) ae;have:=WU (vb:=0) hs (show x*y+bC Q (i+k)+c=(x*y+bC Q (i+k)+c) % 4294967296+4294967296*((x*y+bC Q (i+k)+c) / 4294967296) by omega) h5;rw[<-Qv0,Qn1,this,dS,hye,Q92,Q92,<-Qv0]
   congr 1
   rw[Qx2];generalize 4294967296 ^ i=A;generalize 4294967296 ^ k=C;grind
  ·have hke:k=b.length:=ae;subst hke;rw[eU (Qd1 _)]at h5;refine .inr ⟨_,Ex.of (aaW a b (LL (row0 Q m)) (i+b.length+m) i c),aC,Q,c,h1,h2,h3,?_,rfl⟩;rw[h5,hv,dS,hxe,Qu1]
   congr 1
   rw[Q32]
 ·refine⟨hP,hl,aC,aC,?_⟩;simp[bW,val]
def Jz (a b:List Nat)(es:List D)(n i:Nat)(t:FV):St:=(st0 [.d (LD a),.d (LD b),.u,.ls (.loc 0) 0 1 0 n,dI i,.u,.u,.u,t,.u] [.row 0 1 es])
theorem aaX (a b:List Nat)(es:List D)(n:Nat):EX E0 60 G_ (Jz a b es n a.length .u)=some (.exit 0,Jz a b es n a.length (dB false)):=by
 have t_:(LL a).length=a.length:=by simp[LL]
 unfold Jz;simp only[LD];generalize LL a=as',LL b=bs,a.length=la at*;simp[G_,f87,t_]
theorem WW (a b:List Nat)(la:a.length<=100000000)(lb:b.length<=100000000)(ha:bP a)(hb:bP b) :
  ∃ r,Ex E0 (.loop G_) (Jz a b (LL (row0 [] (a.length+b.length))) (a.length+b.length) 0 .u) r /\
   ∃ O,bP O/\O.length=a.length+b.length/\val O=val a*val b/\r=(.exit 0,Jz a b (LL O) (a.length+b.length) a.length (dB false)):=by
 have e:LL (row0 [] (a.length+b.length))=LL (row0 (List.replicate b.length 0) (a.length-0)):=by
  simp only[row0,Qn0,X11];rw[List.replicate_append_replicate,Xo1]
 rw[e];refine Ex.inv (S:=fun t:List Nat × Nat=>Jz a b (LL (row0 t.1 (a.length-t.2))) (a.length+b.length) t.2 .u) (fun t=>a.length-t.2)
  (fun t=>t.2<=a.length/\t.1.length=t.2+b.length/\bP t.1/\val t.1=bW a t.2*val b) _ ?_ (List.replicate b.length 0,0) ?_
 ·rintro⟨P,i⟩ ⟨h1,h2,h3,h4⟩;simp only at h1 h2 h3 h4
  by_cases hi:i<a.length
  ·obtain⟨m,hm⟩:∃ m,a.length-i=m+1:=⟨a.length-i-1,ae⟩
   have hx:a[i]?=some (a[i]'hi):=Qa1 hi;obtain⟨r,hr,Q,c,g1,g2,g3,g4,rfl⟩:=WV a b P (m+1) i _ hx la lb ha hb h3 h2 h4;rw[show i+b.length+(m+1)=a.length+b.length by omega]at hr;refine .inl ⟨(Q++[c],i+1),?_,by simp only;omega,by simp only;omega,by simp[g2];omega,gT g1 (fun y hy=>by simp at hy;subst hy;exact g3),?_⟩
   ·simp only[hm,show a.length-(i+1)=m by omega];have t_:(LL a).length=a.length:=by simp[LL]
    have CU:(LL b).length=b.length:=by simp[LL]
    have aP:av .i64 ((i:Int)+1)=(i:Int)+1:=wrap_i64 ae;have hk1:((i+1:Nat):Int)=(i:Int)+1:=ae;have hib:av .i64 ((i:Int)+(b.length:Int))=((i+b.length:Nat):Int):=by rw[wrap_i64 ae];omega
    have w1:av .u32 (c:Int)=(c:Int):=wrap_u32 ae;have hz:=LZ Q m;have hset:=Gz Q m c;rw[g2]at hz hset;have hle:(LL (row0 Q (m+1))).length=a.length+b.length:=by rw[qI];omega
    have hlt:i+b.length<a.length+b.length:=ae;rw[<-hset];clear hset;show Ex E0 (.seq G_.l (.seq (.block 1 (.seq G_.r.l.bl.l (.seq (.seq G_.r.l.bl.r.l.l (.block 2 (.loop wjB))) G_.r.l.bl.r.r))) G_.r.r)) _ _;refine Ex.seq (st1:=Jz a b (LL (row0 P (m+1))) (a.length+b.length) i (dB true)) (Ex.of (n:=40) ?_)
     (Ex.seq (st1:=Jz a b ((LL (row0 Q (m+1))).set (i+b.length) (.v (.int .u32 (c:Int)))) (a.length+b.length) i .u)
      (Ex.fF (Ex.seq (st1:={Jz a b (LL (row0 P (m+1))) (a.length+b.length) i .u with vars:=(.d (LD a)::.d (LD b)::.u::.ls (.loc 0) 0 1 0 (a.length+b.length)::dI i::.d (.v (.int .u64 0))::mO)}) (Ex.of (n:=40) ?_)
       (Ex.seq (Ex.seq (Ex.of (n:=40) ?_) hr.block) (Ex.of (n:=40) ?_)))) (Ex.of (n:=40) ?_))
    ·unfold Jz;simp only[LD];generalize LL a=as' at*;generalize LL b=bs at*;generalize LL (row0 P (m+1))=es at*;simp[G_,f87,t_,hi]
    ·unfold Jz;simp only[LD];generalize LL a=as' at*;generalize LL b=bs at*;generalize LL (row0 P (m+1))=es at*;simp[G_,f87]
    ·unfold Jz Rb;simp only[LD];generalize LL a=as' at*;generalize LL b=bs at*;generalize LL (row0 P (m+1))=es at*;simp[G_,f87]
    ·unfold Jz Rb;simp only[LD];generalize LL a=as' at*;generalize LL b=bs at*;generalize LL (row0 Q (m+1))=es at*;have hz2:=idx hz;generalize i+b.length=j at*;generalize b.length=lb' at*;generalize a.length+lb'=n at*;simp[G_,f87,CU,hib,hz,hz2,hle,hlt,w1]
    ·unfold Jz;simp only[LD];rw[hk1];generalize LL a=as' at*;generalize LL b=bs at*;generalize List.set _ _ _=es at*;simp[G_,f87,aP]
   ·simp only;rw[val_append,g2,<-g4];simp[val]
  ·have hi2:i=a.length:=ae;subst hi2;rw[eU (Qd1 _)]at h4;refine .inr ⟨_,?_,?_,P,h3,h2,h4,rfl⟩
   ·simp only[Q11,DF];exact Ex.of (aaX a b (LL P) (a.length+b.length))
   ·simp
 ·refine⟨aC,aC,?_,?_⟩
  ·intro x hx;have:=List.eq_of_mem_replicate hx;omega
  ·have:∀ m,val (List.replicate m 0)=0:=by
    intro m
    induction m with
    | zero=>rfl
    | succ m ih=>rw[Q60,val,ih]
   simp[bW,val,this]
theorem NP (a b:List Nat)(la:a.length<=100000000)(lb:b.length<=100000000)(ha:bP a)(hb:bP b) :
  Ca E0 87 [.d (LD a),.d (LD b)] (.d (LD (enc (val a*val b))),none):=by
 obtain⟨r,hl,o,ho,hol,hv,rfl⟩:=WW a b la lb ha hb;obtain⟨n0,hc⟩:=(vk o ae).get;rw[b_ ho,hv]at hc;have hlo:(LL o).length=a.length+b.length:=by simp[LL,hol]
 have t_:(LL a).length=a.length:=by simp[LL]
 have CU:(LL b).length=b.length:=by simp[LL]
 have htk:(LL o).take (a.length+b.length)=LL o:=Qe0 ae;have hz:=u7 (a.length+b.length);generalize enc (val a*val b)=res at*;refine Ca.body (o:=.ret) (st1:=(st0 (.u::.u::.d (LD res)::nO) [.fU 0 1 (LL o)])) rfl (aN 87 f87:E0.fn _=_) rfl ?_ (by intro id h;cases h) ?_
 ·show Ex E0 (.seq f87.body.l (.seq f87.body.r.l (.seq (.seq f87.body.r.r.l.l (.block 0 (.loop G_))) f87.body.r.r.r))) _ _;refine Ex.seq (st1:=(st0 (.d (LD a)::.d (LD b)::zf) [])) (Ex.of (n:=40) ?_)
   (Ex.seq (st1:=(st0 (.d (LD a)::.d (LD b)::.u::.ls (.loc 0) 0 1 0 (a.length+b.length)::qm) [.row 0 1 (LL (row0 [] (a.length+b.length)))])) (Ex.of (n:=40) ?_)
   (Ex.seq (Ex.seq (Ex.of (n:=40) ?_) hl.block) (Ex.of (n:=n0+40) ?_)))
  ·simp[f87]
  ·have hw:av .i64 ((a.length:Int)+(b.length:Int))=((a.length+b.length:Nat):Int):=by rw[wrap_i64 ae];omega
   have hmb:a.length+b.length<=200000000:=ae;rw[hz];generalize a.length+b.length=m at*;have hm1:(m:Int)*4<=1099511627776:=ae;have hm2:(m:Int)<=1099511627776:=ae;simp[f87,LD,t_,CU,hw,hm1,hm2,most]
  ·unfold Jz;simp[f87,LD]
  ·unfold Jz;simp only[LD]at hc ⊢;clear hl;generalize LL o=es,a.length+b.length=m at*;simp[ai.view,f87,hlo,htk,hc]
 ·simp[f87,LD]
theorem WX {l:List Nat}(h:bP l)(n:Nat):bC l n=val l / 4294967296 ^ n % 4294967296:=by
 have h1:=xz l n;have h2:=nP h n;have h3:=iJ l n;have h4:=cz h n;have h5:val l / 4294967296 ^ n=val (l.drop n):=by
  rw[h1,X1 _ _ (Qt0 ae),Q82 h2,Qy0]
 rw[h5,h3];omega
theorem and1 {x:Nat}(hx:x<4294967296):Ak .u32 (x:Int) 1=((x % 2:Nat):Int):=by
 rw[Fg,<-cB]
 change av .u32 ((BitVec.ofInt 32 (x:Int) &&& BitVec.ofInt 32 1).toNat:Int)=_
 rw[BitVec.ofInt_natCast];have e1:BitVec.ofInt 32 1=BitVec.ofNat 32 1:=by rfl
 rw[e1,BitVec.toNat_and,BitVec.toNat_ofNat,BitVec.toNat_ofNat,Qw1 ae,Qw1 ae,Nat.and_one_is_mod];exact wrap_u32 ae
theorem ag6 {s:Nat}(hs:s<32):JK .u32 1 (s:Int)=((2 ^ s:Nat):Int):=by
 rw[zt,<-cB];have h2:min ((s:Int).toNat) (IntKind.bits .u32)=s:=by simp[IntKind.bits];omega
 have h3:2 ^ s<4294967296:=by
  have:=X12 (a:=2) ae hs;simpa using this
 rw[h2,Int.one_mul];have e:((2:Int) ^ s)=((2 ^ s:Nat):Int):=aC;rw[e];generalize 2 ^ s=p at*;exact wrap_u32 ae
theorem or_bit {L s:Nat}(hL:L<4294967296)(hs:s<32)(h:L % 2 ^ (s+1)=0):GA .u32 (L:Int) ((2 ^ s:Nat):Int)=((L+2 ^ s:Nat):Int)/\L+2 ^ s<4294967296:=by
 have h3:2 ^ s<2 ^ (s+1):=X12 ae ae;have e1:L=(L / 2 ^ (s+1)) <<< (s+1):=by
  rw[Nat.shiftLeft_eq];have:=Xr2 L (2 ^ (s+1));rw[h,Q42,Qm1]at this;exact this.symm
 have e2:L ||| 2 ^ s=L+2 ^ s:=by
  have:=Xn1 h3 (L / 2 ^ (s+1));rw[<-e1]at this;exact this.symm
 have hp:2 ^ s<4294967296:=by
  have:=X12 (a:=2) ae hs;simpa using this
 have hor:L ||| 2 ^ s<2 ^ 32:=Nat.or_lt_two_pow (by simpa using hL) (by simpa using hp);have hlt:L+2 ^ s<4294967296:=by rw[<-e2];simpa using hor
 refine⟨?_,hlt⟩;rw[xh,<-cB]
 change av .u32 ((BitVec.ofInt 32 (L:Int) ||| BitVec.ofInt 32 ((2 ^ s:Nat):Int)).toNat:Int)=_
 rw[BitVec.ofInt_natCast,BitVec.ofInt_natCast,BitVec.toNat_or,BitVec.toNat_ofNat,BitVec.toNat_ofNat,Qw1 (by simpa using hL),Qw1 (by simpa using hp),e2];exact wrap_u32 ae
def DR:aF:=f171.body.r.r.r.l.r.bl.lp
def okr (rv:FV)(r:Nat):Prop:=rv=.d (LD (enc r))\/(r=0/\rv=.d (.n 1))
def C9 (a b:List Nat)(es:List D)(n:Nat)(rv:FV)(i:Int)(t t8 t9:FV):St:=(st0 [.d (LD a),.d (LD b),.u,.u,.ls (.loc 0) 0 1 0 n,rv,dI i,t,t8,t9] [.row 0 1 es])
theorem aaY (a b:List Nat)(es:List D)(n:Nat)(rv:FV):EX E0 60 DR (C9 a b es n rv (-1) .u .u .u)=some (.exit 0,C9 a b es n rv (-1) (dB false) .u .u):=by
 unfold C9;simp only[LD];generalize LL a=as',LL b=bs at*;simp[DR,f171]
theorem ad_ (a b:List Nat)(es:List D)(n:Nat)(rv:FV)(r:Nat)(i:Int)(h:okr rv r)(lr:sz r<=10000000) :
  Ex E0 DR.r.l.bl.l (C9 a b es n rv i (dB true) .u .u) (.norm,C9 a b es n (.d (LD (enc (2*r)))) i .u .u .u):=by
 unfold sz at lr;obtain⟨N,t⟩:=(Aj (enc r) (enc r) ae ae (aU _) (aU _)).get;rw[aV,show r+r=2*r by omega]at t;refine Ex.of (n:=N+60) ?_;unfold C9;rcases h with rfl|⟨rfl,rfl⟩
 ·simp only[LD]at t ⊢;generalize LL a=as',LL b=bs,LL (enc r)=rs,LL (enc (2*r))=rs2 at*;simp[DR,f171,t]
 ·simp only[df,LD,LL,Qc2,Nat.mul_zero]at t ⊢;generalize List.map (fun(x:Nat)=>D.v (Value.int IntKind.u32 (x:Int))) a=as' at*;generalize List.map (fun(x:Nat)=>D.v (Value.int IntKind.u32 (x:Int))) b=bs at*;simp[DR,f171,t]
theorem ad' (a b:List Nat)(es:List D)(n:Nat)(r i x:Nat)(ha:a[i / 32]?=some x)(hx:x<4294967296)(hi:i<=1000000000)(lr:sz r<=10000000) :
  ∃ t8,Ex E0 DR.r.l.bl.r.l (C9 a b es n (.d (LD (enc r))) i .u .u .u) (.norm,C9 a b es n (.d (LD (enc (r+x / 2 ^ (i % 32) % 2)))) i .u t8 .u):=by
 have hxa:(LL a)[i / 32]?=some (.v (.int .u32 (x:Int))):=by simp[LL,ha]
 have hla:i / 32<(LL a).length:=by simpa[LL] using(aS ha)
 have w1:Int.tdiv (i:Int) 32=((i / 32:Nat):Int):=by rw[Q40 ae];omega
 have w2:av .i64 ((i / 32:Nat):Int)=((i / 32:Nat):Int):=wrap_i64 ae;have w3:Int.tmod (i:Int) 32=((i % 32:Nat):Int):=by rw[Xb0 ae];omega
 have w4:av .u64 ((i % 32:Nat):Int)=((i % 32:Nat):Int):=wrap_u64 ae;have hs:i % 32<32:=Qu0 _ ae;generalize i % 32=s,i / 32=w at*;have w5:Int.fdiv (x:Int) (2 ^ (min s 32))=((x / 2 ^ s:Nat):Int):=by
  rw[show min s 32=s by omega,Qm2 _ (Int.pow_nonneg ae),Xz0];simp
 have hq:x / 2 ^ s<4294967296:=Q90 (Xl1 _ _) hx;generalize x / 2 ^ s=y at*;have w6:=and1 hq;have hs0:¬ ((s:Int)<0):=ae;unfold sz at lr;have h2:y % 2=0\/y % 2=1:=ae;rcases h2 with h2|h2
 ·rw[h2]at w6 ⊢;refine⟨dB false,Ex.of (n:=60) ?_⟩;unfold C9;simp only[LD,Q42];generalize LL a=as',LL b=bs,LL (enc r)=rs at*;have i1:=idx hxa;simp[IntKind.bits,DR,f171,hla,hxa,i1,w1,w2,w3,w4,w5,w6,hs0]
 ·rw[h2]at w6 ⊢;obtain⟨N,t⟩:=(Aj (enc r) [1] ae aC (aU _) (by intro z hz;simp at hz;omega)).get;rw[aV,show val [1]=1 by simp[val]]at t;refine⟨.u,Ex.of (n:=N+60) ?_⟩;unfold C9;simp only[LD,LL,Qe1,Qc2]at hxa hla t ⊢;generalize List.map (fun(x:Nat)=>D.v (Value.int IntKind.u32 (x:Int))) a=as' at*;generalize List.map (fun(x:Nat)=>D.v (Value.int IntKind.u32 (x:Int))) b=bs at*;generalize List.map (fun(x:Nat)=>D.v (Value.int IntKind.u32 (x:Int))) (enc r)=rs at*;generalize List.map (fun(x:Nat)=>D.v (Value.int IntKind.u32 (x:Int))) (enc (r+1))=rs2 at*;have i1:=idx hxa;simp only[Int.natCast_one]at t;simp[IntKind.bits,DR,f171,hla,hxa,i1,w1,w2,w3,w4,w5,w6,hs0,t]
theorem aea (a:List Nat)(y:Nat)(Q:List Nat)(r i:Nat)(t8:FV)(hi:i<=1000000000)(lr:sz r<=10000000)(ly:sz y<=10000000)(hQ:bP Q)(hw:i / 32<Q.length)(hbit:bC Q (i / 32) % 2 ^ (i % 32+1)=0) :
  ∃ t9,Ex E0 DR.r.l.bl.r.r (C9 a (enc y) (LL Q) Q.length (.d (LD (enc r))) i .u t8 .u)
   (.norm,C9 a (enc y) (LL (if y<=r then Q.set (i / 32) (bC Q (i / 32)+2 ^ (i % 32)) else Q)) Q.length (.d (LD (enc (if y<=r then r-y else r)))) i .u .u t9):=by
 obtain⟨n1,t1⟩:=(Md r y ae ae).any;have hs:i % 32<32:=Qu0 _ ae;have hL:=cz hQ (i / 32);obtain⟨o1,o2⟩:=or_bit hL hs hbit;have hse:=ag6 hs;have w1:Int.tdiv (i:Int) 32=((i / 32:Nat):Int):=by rw[Q40 ae];omega
 have w2:av .i64 ((i / 32:Nat):Int)=((i / 32:Nat):Int):=wrap_i64 ae;have w3:Int.tmod (i:Int) 32=((i % 32:Nat):Int):=by rw[Xb0 ae];omega
 have w4:av .u64 ((i % 32:Nat):Int)=((i % 32:Nat):Int):=wrap_u64 ae;have hge:(LL Q)[i / 32]?=some (.v (.int .u32 ((bC Q (i / 32):Nat):Int))):=by simp[LL,bC,Qa1 hw]
 have hset:LL (Q.set (i / 32) (bC Q (i / 32)+2 ^ (i % 32)))=(LL Q).set (i / 32) (.v (.int .u32 ((bC Q (i / 32)+2 ^ (i % 32):Nat):Int))):=by simp[LL,Q41]
 have hlen:(LL Q).length=Q.length:=by simp[LL]
 by_cases Ql:y<=r
 ·have hc:(0:Int)<=dH r y:=by unfold dH;rw[if_neg ae];split<;>omega
  unfold sz at lr ly;obtain⟨n2,t2⟩:=(DN (enc r) (enc y) ae (bH Ql) (aU _) (aU _) (by rw[aV,aV];exact Ql)).any;rw[aV,aV]at t2;replace t1:=t1 (n1+n2) ae;replace t2:=t2 (n1+n2) ae;generalize n1+n2=N at*;rw[if_pos Ql,if_pos Ql,hset];refine⟨.u,Ex.of (n:=N+60) ?_⟩;unfold C9;generalize bC Q (i / 32)+2 ^ (i % 32)=v at*;generalize 2 ^ (i % 32)=p at*;have hs0:¬ (((i % 32:Nat):Int)<0):=ae;generalize i % 32=s,bC Q (i / 32)=q0 at*;generalize i / 32=w,dH r y=cc at*;simp only[LD]at t1 t2 ⊢;generalize LL a=as',LL Q=es,LL (enc r)=rs,LL (enc y)=ys,LL (enc (r-y))=ms at*;have i1:=idx hge;generalize Q.length=l at*;simp[IntKind.bits,DR,f171,hlen,hw,hge,i1,t1,t2,hc,w1,w2,w3,w4,o1,hse,hs0]
 ·have hc:dH r y=-1:=by unfold dH;rw[if_pos ae]
  rw[hc]at t1;replace t1:=t1 n1 ae;rw[if_neg Ql,if_neg Ql];refine⟨dB false,Ex.of (n:=n1+60) ?_⟩;unfold C9;simp only[LD]at t1 ⊢;generalize LL a=as',LL Q=es,LL (enc r)=rs,LL (enc y)=ys at*;simp[DR,f171,t1]
theorem vC (w:Nat):(2:Nat) ^ (32*w)=4294967296 ^ w:=by rw[X41]
theorem Ha (x j:Nat):x / 4294967296 ^ (j / 32) % 4294967296 / 2 ^ (j % 32) % 2=x / 2 ^ j % 2:=by
 have hj:j=32*(j / 32)+j % 32:=ae;have hs:j % 32<32:=Qu0 _ ae;have e:x / 2 ^ j=x / 4294967296 ^ (j / 32) / 2 ^ (j % 32):=by
  conv=>lhs;rw[hj,Qx2,vC,<-Qy2]
 rw[e];generalize x / 4294967296 ^ (j / 32)=z;generalize j % 32=s at*;have hp:0<2 ^ s:=Qt0 ae;have e2:4294967296=2 ^ s*(2*2 ^ (31-s)):=by
  rw[<-Q32,Qm1 (2 ^ s) 2,<-Nat.pow_succ',<-Qx2,show s+1+(31-s)=32 by omega]
 have e3:z / 2 ^ s=z % 4294967296 / 2 ^ s+2*(2 ^ (31-s)*(z / 4294967296)):=by
  conv=>lhs;rw[<-Nat.mod_add_div z 4294967296]
  have:4294967296*(z / 4294967296)=2 ^ s*(2*(2 ^ (31-s)*(z / 4294967296))):=by
   conv=>lhs;lhs;rw[e2]
   rw[Q32,Q32]
  rw[this,X1 _ _ hp]
 omega
theorem DT {Q:List Nat}(hQ:bP Q){q j:Nat}(hv:val Q=q*2 ^ (j+1)):bC Q (j / 32) % 2 ^ (j % 32+1)=0:=by
 have hs:j % 32<32:=Qu0 _ ae;have hj:j+1=32*(j / 32)+(j % 32+1):=ae;rw[WX hQ,hv];have e:q*2 ^ (j+1)=4294967296 ^ (j / 32)*(q*2 ^ (j % 32+1)):=by
  conv=>lhs;rw[hj,Qx2,vC]
  generalize 4294967296 ^ (j / 32)=A;generalize 2 ^ (j % 32+1)=C;grind
 rw[e,Nat.mul_div_cancel_left _ (Qt0 ae)];have hd:2 ^ (j % 32+1) ∣ 4294967296:=by
  have:(4294967296:Nat)=2 ^ 32:=by rfl
  rw[this];exact Nat.pow_dvd_pow 2 ae
 rw[Nat.mod_mod_of_dvd _ hd,Nat.mul_mod_left]
theorem WY {H y b:Nat}(hy:0<y)(hb:b<2) :
  (2*H+b) / y=(if y<=2*(H % y)+b then 2*(H / y)+1 else 2*(H / y))/\(2*H+b) % y=if y<=2*(H % y)+b then 2*(H % y)+b-y else 2*(H % y)+b:=by
 have h1:=Xr2 H y;have h2:=Qu0 H hy;generalize H % y=r,H / y=q at*;have e:2*H+b=y*(2*q)+(2*r+b):=by
  rw[<-h1];grind
 by_cases h:y<=2*r+b
 ·rw[if_pos h,if_pos h];have e2:2*H+b=y*(2*q+1)+(2*r+b-y):=by rw[e,Q92,Xr0];omega
  have hlt:2*r+b-y<y:=ae;rw[e2,Xl0 hy,Q82 hlt,X01,Qw1 hlt];exact⟨rfl,rfl⟩
 ·rw[if_neg h,if_neg h];have hlt:2*r+b<y:=ae;rw[e,Xl0 hy,Q82 hlt,X01,Qw1 hlt];exact⟨rfl,rfl⟩
theorem WZ (x y:Nat)(hy:0<y)(lx:sz x<=1000000)(ly:sz y<=1000000) :
  ∃ r,Ex E0 (.loop DR) (C9 (enc x) (enc y) (LL (row0 [] (sz x))) (sz x) (.d (.n 1)) (((32*sz x:Nat):Int)-1) .u .u .u) r /\
   ∃ Q rv,bP Q/\Q.length=sz x/\val Q=x / y/\okr rv (x % y)/\r=(.exit 0,C9 (enc x) (enc y) (LL Q) (sz x) rv (-1) (dB false) .u .u):=by
 refine Ex.inv (S:=fun t:Nat × List Nat × FV=>C9 (enc x) (enc y) (LL t.2.1) (sz x) t.2.2 ((t.1:Int)-1) .u .u .u) (fun t=>t.1)
  (fun t=>t.1<=32*sz x/\bP t.2.1/\t.2.1.length=sz x/\val t.2.1=x / 2 ^ t.1 / y*2 ^ t.1/\okr t.2.2 (x / 2 ^ t.1 % y)) _ ?_ (32*sz x,row0 [] (sz x),.d (.n 1)) ?_
 ·rintro⟨j,Q,rv⟩ ⟨h1,h2,h3,h4,h5⟩;simp only at h1 h2 h3 h4 h5;cases j with
  | zero =>
   simp only[Nat.pow_zero,Xj0,Xr0]at h4 h5;refine .inr ⟨_,?_,aC,Q,rv,h2,h3,h4,h5,rfl⟩;have:=aaY (enc x) (enc y) (LL Q) (sz x) rv;simpa using Ex.of this
  | succ j =>
   have hw:j / 32<sz x:=ae;have hr2:x / 2 ^ (j+1) % y<y:=Qu0 _ hy;have hsr:sz (x / 2 ^ (j+1) % y)<=1000000:=Qe2 (oG ae) ly;have p1:=ad_ (enc x) (enc y) (LL Q) (sz x) rv _ (j:Int) h5 ae;have aja:sz (2*(x / 2 ^ (j+1) % y))<=1000002:=by
    have:=JZ (x / 2 ^ (j+1) % y) (x / 2 ^ (j+1) % y);rw[show x / 2 ^ (j+1) % y+x / 2 ^ (j+1) % y=2*(x / 2 ^ (j+1) % y) by omega]at this;omega
   have hax:(enc x)[j / 32]?=some (bC (enc x) (j / 32)):=by
    have:j / 32<(enc x).length:=hw;simp[bC,Qa1 this]
   obtain⟨t8,p2⟩:=ad' (enc x) (enc y) (LL Q) (sz x) (2*(x / 2 ^ (j+1) % y)) j _ hax (cz (aU x) _) ae ae;rw[u_,Ha]at p2;have hb:x / 2 ^ j % 2<2:=Qu0 _ ae;have hH:x / 2 ^ j=2*(x / 2 ^ (j+1))+x / 2 ^ j % 2:=by
    rw[Qn1,<-Qy2];omega
   obtain⟨d1,d2⟩:=WY (H:=x / 2 ^ (j+1)) hy hb;rw[<-hH]at d1 d2;have ajb:sz (2*(x / 2 ^ (j+1) % y)+x / 2 ^ j % 2)<=1000004:=by
    have:=JZ (2*(x / 2 ^ (j+1) % y)) (x / 2 ^ j % 2);have h1s:sz (x / 2 ^ j % 2)<=1:=yz ae;omega
   obtain⟨t9,p3⟩:=aea (enc x) y Q (2*(x / 2 ^ (j+1) % y)+x / 2 ^ j % 2) j t8 ae ae ae h2 ae (DT h2 h4);rw[<-d2,h3]at p3;have w3:av .i64 ((j:Int)-1)=(j:Int)-1:=wrap_i64 ae;have w4:(0:Int)<=(j:Int):=ae;have hlim:=cz h2 (j / 32);refine .inl ⟨(j,if y<=2*(x / 2 ^ (j+1) % y)+x / 2 ^ j % 2 then Q.set (j / 32) (bC Q (j / 32)+2 ^ (j % 32)) else Q,.d (LD (enc (x / 2 ^ j % y)))),?_,aC,by simp only;omega,?_,?_,?_,.inl rfl⟩
   ·simp only;rw[show(((j+1:Nat):Int)-1)=(j:Int) by omega];generalize (if y<=2*(x / 2 ^ (j+1) % y)+x / 2 ^ j % 2 then Q.set (j / 32) (bC Q (j / 32)+2 ^ (j % 32)) else Q)=Q',x / 2 ^ j % y=r' at*;show Ex E0 (.seq DR.l (.seq (.block 1 (.seq DR.r.l.bl.l (.seq DR.r.l.bl.r.l DR.r.l.bl.r.r))) DR.r.r)) _ _;refine Ex.seq (Ex.of (n:=40) ?_) (Ex.seq (Ex.fF (p1.seq (p2.seq p3))) (Ex.of (n:=40) ?_))
    ·unfold C9;simp only[LD];generalize LL (enc x)=as' at*;generalize LL (enc y)=bs at*;generalize LL Q=es at*;simp[DR,f171,w4]
    ·unfold C9;simp only[LD];generalize LL (enc x)=as' at*;generalize LL (enc y)=bs at*;generalize LL Q'=es at*;generalize LL (enc r')=rs at*;simp[DR,f171,w3]
   ·simp only;split
    ·exact ET h2 (or_bit hlim (Qu0 _ ae) (DT h2 h4)).2
    ·exact h2
   ·simp only;split
    ·simp[h3]
    ·exact h3
   ·simp only;rw[d1];split
    ·have hvs:=zw Q (j / 32) (bC Q (j / 32)+2 ^ (j % 32)) ae;have e2:4294967296 ^ (j / 32)*2 ^ (j % 32)=2 ^ j:=by
      rw[<-vC,<-Qx2,show 32*(j / 32)+j % 32=j by omega]
     rw[Q92,e2,h4,Qn1]at hvs;have e3:(2*(x / (2 ^ j*2) / y)+1)*2 ^ j=x / (2 ^ j*2) / y*(2 ^ j*2)+2 ^ j:=by grind
     rw[Qn1,e3];omega
    ·rw[h4,Qn1];grind
 ·have hx0:x / 2 ^ (32*sz x)=0:=by rw[vC];exact Q82 (GX x)
  refine⟨Qd1 _,?_,by simp[row0],?_,.inr ⟨?_,rfl⟩⟩
  ·intro z hz;simp[row0]at hz;omega
  ·have:∀ m,val (List.replicate m 0)=0:=by
    intro m
    induction m with
    | zero=>rfl
    | succ m ih=>rw[Q60,val,ih]
   simp only[row0,Qn0,this,hx0];simp
  ·simp only[hx0,Nat.zero_mod]
theorem xA (x y:Nat)(hy:0<y)(lx:sz x<=1000000)(ly:sz y<=1000000) :
  Ca E0 171 [.d (LD (enc x)),.d (LD (enc y))] (.d (.t [LD (enc (x / y)),LD (enc (x % y))]),none):=by
 obtain⟨r,hloop,Q,rv,hQ,hql,hv,hr,rfl⟩:=WZ x y hy lx ly;obtain⟨n0,hc⟩:=(vk Q ae).get;rw[b_ hQ,hv]at hc;have t_:(LL (enc x)).length=sz x:=by simp[LL,sz]
 have hlo:(LL Q).length=sz x:=by simp[LL,hql]
 have htk:(LL Q).take (sz x)=LL Q:=Qe0 ae;have hz:=u7 (sz x);generalize enc (x / y)=res at*;refine Ca.body (o:=.ret) (st1:=(st0 (.u::.u::.d (LD res)::rv::qm) [.fU 0 1 (LL Q)])) rfl (aN 171 f171:E0.fn _=_) rfl ?_ (by intro id h;cases h) ?_
 ·show Ex E0 (.seq f171.body.l (.seq f171.body.r.l (.seq f171.body.r.r.l (.seq (.seq f171.body.r.r.r.l.l (.block 0 (.loop DR))) f171.body.r.r.r.r)))) _ _;refine Ex.seq (st1:=(st0 (.d (LD (enc x))::.d (LD (enc y))::zf) [])) (Ex.of (n:=40) ?_)
   (Ex.seq (st1:=(st0 (.d (LD (enc x))::.d (LD (enc y))::.u::.u::.ls (.loc 0) 0 1 0 (sz x)::iO) [.row 0 1 (LL (row0 [] (sz x)))])) (Ex.of (n:=40) ?_)
   (Ex.seq (st1:=(st0 (.d (LD (enc x))::.d (LD (enc y))::.u::.u::.ls (.loc 0) 0 1 0 (sz x)::.d (.n 1)::mO) [.row 0 1 (LL (row0 [] (sz x)))])) (Ex.of (n:=40) ?_)
   (Ex.seq (Ex.seq (Ex.of (n:=40) ?_) hloop.block) (Ex.of (n:=n0+40) ?_))))
  ·simp[f171]
  ·have hm1:((sz x:Nat):Int)*4<=1099511627776:=ae;have hm2:((sz x:Nat):Int)<=1099511627776:=ae;rw[hz];simp only[LD];generalize LL (enc x)=as',LL (enc y)=bs,sz x=m at*;simp[f171,t_,hm1,hm2,most]
  ·simp[f171]
  ·have w1:av .i64 (32*((sz x:Nat):Int))=((32*sz x:Nat):Int):=by rw[wrap_i64 ae];omega
   have w2:av .i64 (((32*sz x:Nat):Int)-1)=((32*sz x:Nat):Int)-1:=wrap_i64 ae;unfold C9;simp only[LD];generalize LL (enc x)=as',LL (enc y)=bs,LL (row0 [] (sz x))=es,32*sz x=m32 at*;generalize sz x=m at*;simp[f171,t_,w1,w2]
  ·unfold C9;clear hloop;simp only[LD]at hc ⊢;generalize LL Q=es,sz x=m at*;simp[ai.view,f171,hlo,htk,hc]
 ·rcases hr with rfl|⟨h0,rfl⟩
  ·simp[f171,LD,lY]
  ·rw[h0];simp[f171,LD,LL,df,lY]
def wgB:aF:=f170.body.r.l.bl.lp
theorem Rh (a:Nat):Ex E0 wgB (CW a 0 .u) (.exit 0,CW a 0 (dB false)):=by
 refine Ex.of (n:=40) ?_;unfold CW;simp only[df,LD];generalize LL (enc a)=as';simp[wgB,f170,LL]
theorem J8 (a b:Nat)(la:sz a<=1000000)(lb:sz b<=1000000)(hb0:0<b):Ex E0 wgB (CW a b .u) (.norm,CW b (a % b) .u):=by
 obtain⟨n0,ho⟩:=(xA a b hb0 la lb).get;refine Ex.of (n:=n0+60) ?_;unfold CW;have hlb:∃ m,(LL (enc b)).length=m+1:=by
  have:0<(enc b).length:=Xf1.2 (by intro e;rw[dO]at e;omega);exact⟨(enc b).length-1,by simp[LL];omega⟩
 obtain⟨m,hlb⟩:=hlb;have hm:0<(m:Int)+1:=ae;simp only[LD]at ho ⊢;generalize LL (enc a)=as',LL (enc b)=bs,LL (enc (a / b))=qs,LL (enc (a % b))=rs at*;simp[wgB,f170,hlb,ho,hm]
theorem NQ (a b:Nat)(la:sz a<=1000000)(lb:sz b<=1000000):Ex E0 (.loop wgB) (CW a b .u) (.exit 0,CW (Nat.gcd a b) 0 (dB false)):=by
 induction b using Nat.strongRecOn generalizing a with
 | ind b ih =>
  rcases Qq0 b with rfl|h0
  ·rw[Nat.gcd_zero_right];exact Ex.out (Rh a) aC
  ·have hm:=Qu0 a h0;have:=ih (a % b) hm b lb (Qe2 (oG ae) lb);have hg:Nat.gcd a b=Nat.gcd b (a % b):=by rw[Xs1 a b,Nat.gcd_rec b a,Xs1]
   rw[hg];exact Ex.next (J8 a b la lb h0) this
theorem Al (a b:Nat)(la:sz a<=1000000)(lb:sz b<=1000000):Ca E0 170 [.d (LD (enc a)),.d (LD (enc b))] (.d (LD (enc (Nat.gcd a b))),none):=by
 have hl:=NQ a b la lb;generalize Nat.gcd a b=g at*;refine Ca.body (o:=.ret) (st1:=(st0 [.u,.u,.d (LD (enc g)),.u,.u] [])) rfl (aN 170 f170:E0.fn _=_) rfl ?_ (by intro id h;cases h) ?_
 ·show Ex E0 (.seq f170.body.l (.seq (.block 0 (.loop wgB)) f170.body.r.r)) _ _;refine Ex.seq (st1:=CW a b .u) (Ex.of (n:=40) ?_) (Ex.seq hl.block (Ex.of (n:=40) ?_))
  ·unfold CW;simp[f170]
  ·unfold CW;simp[f170]
 ·simp[f170,LD]
theorem last_cases (l:List Nat):l=[]\/∃ (m x:Nat),l.length=m+1/\(LL l)[m]?=some (.v (.int .u32 (x:Int)))/\((x:Int)==0) = !uh l:=by
 rcases Q72 l with h|⟨b,x,h⟩
 ·exact .inl h
 ·refine .inr ⟨b.length,x,by simp[h],by simp[LL,h],?_⟩;rw[h,Q10];unfold uh
  by_cases hx:x=0
  ·subst hx;rw[rT];have h2:=qL b;have h3:¬ trim b=b++[0]:=by
    intro e;rw[e]at h2;simp only[Qb0,Qf2,Qw0]at h2;omega
   simp[h3]
  ·rw[rR b x hx];have:((x:Int)==0)=false:=by simp;omega
   simp[this]
theorem zB {g:Nat}:enc g=[1]↔g=1:=by
 constructor
 ·intro h;have:=aV g;rw[h]at this;simp[val]at this;omega
 ·rintro rfl;exact nQ ae ae
theorem NR (s:Bool)(a b:List Nat)(hb:bP b) :
  dC s a b=(if !uh a || !uh b||decide (b=[1]) then false else if a=[] then !s&&decide (b=[]) else decide (b=[])||decide (Nat.gcd (val a) (val b)=1)):=by
 unfold dC;cases uh a
 ·simp
 ·cases h:uh b
  ·simp
  ·simp only[Ql0,Xh2,Xe0]
   by_cases h1:b=[1]
   ·subst h1;simp[val]
   ·have hv:b≠[]->val b≠1:=by
     intro _ hv;have:=(mV hb).1 h;rw[hv]at this;exact h1 (this.trans (zB.2 rfl))
    simp only[h1,decide_false,Qh1,if_false]
    by_cases h0:b=[]
    ·subst h0;simp
    ·simp only[h0,decide_false,Bool.and_false,Xe0,hv h0,ne_eq,not_false_eq_true,decide_true,Ql0]
theorem rY (s:Bool)(a b:List Nat)(la:a.length<=1000000)(lb:b.length<=1000000)(ha:bP a)(hb:bP b):Ca E0 97 [.d (raw s a b)] (dB (dC s a b),none):=by
 rw[NR s a b hb];have h1:=fun m=>Ai m b
 -- the two last limbs
 have ca:=last_cases a;have cb:=last_cases b;have hla:(LL a).length=a.length:=by simp[LL]
 have hlb:(LL b).length=b.length:=by simp[LL]
 by_cases hbad:(!uh a || !uh b||decide (b=[1]))=true
 ·rw[if_pos hbad];refine Ca.bO (n:=90) ?_;rw[aB rfl (k97:E0.fn _=_) rfl];rcases ca with rfl|⟨m,x,hm,hx,hx0⟩
  ·have ok0:uh []=true:=by simp[uh,trim]
   rw[ok0]at hbad;rcases cb with rfl|⟨m2,y,hm2,hy,hy0⟩
   ·rw[ok0]at hbad;simp at hbad
   ·have p2:(0:Int)<(m2:Int)+1:=ae;have w2:av .i64 (m2:Int)=(m2:Int):=wrap_i64 ae;rw[hm2]at hlb;cases Gm:uh b
    ·rw[Gm]at hy0;simp only[raw,LD]at h1 ⊢;generalize LL b=bs at*;have i2:=idx hy;simp only[LL,Qc2];simp[f97,hlb,hy,i2,hy0,p2,w2]
    ·rw[Gm]at hy0 hbad;have h11:decide (b=[1])=true:=by simpa using hbad
     rw[h11]at h1;simp only[raw,LD]at h1 ⊢;generalize LL b=bs at*;have i2:=idx hy;simp only[LL,Qc2];simp[f97,hlb,hy,i2,hy0,p2,w2,h1]
  ·have p1:(0:Int)<(m:Int)+1:=ae;have w1:av .i64 (m:Int)=(m:Int):=wrap_i64 ae;rw[hm]at hla;cases hoa:uh a
   ·rw[hoa]at hx0;simp only[raw,LD]at h1 ⊢;generalize LL a=as',LL b=bs at*;have i1:=idx hx;simp[f97,hla,hx,i1,hx0,p1,w1]
   ·rw[hoa]at hx0 hbad;rcases cb with rfl|⟨m2,y,hm2,hy,hy0⟩
    ·have ok0:uh []=true:=by simp[uh,trim]
     rw[ok0]at hbad;simp at hbad
    ·have p2:(0:Int)<(m2:Int)+1:=ae;have w2:av .i64 (m2:Int)=(m2:Int):=wrap_i64 ae;rw[hm2]at hlb;cases Gm:uh b
     ·rw[Gm]at hy0;simp only[raw,LD]at h1 ⊢;generalize LL a=as',LL b=bs at*;have i1:=idx hx;have i2:=idx hy;simp[f97,hla,hx,i1,hx0,p1,w1,hlb,hy,i2,hy0,p2,w2]
     ·rw[Gm]at hy0 hbad;have h11:decide (b=[1])=true:=by simpa using hbad
      rw[h11]at h1;simp only[raw,LD]at h1 ⊢;generalize LL a=as',LL b=bs at*;have i1:=idx hx;have i2:=idx hy;simp[f97,hla,hx,i1,hx0,p1,w1,hlb,hy,i2,hy0,p2,w2,h1]
 ·rw[if_neg hbad];simp only[Xg1,Qo0,decide_eq_true_eq,not_or,Bool.not_eq_false]at hbad;obtain⟨⟨hoa,Gm⟩,hb1⟩:=hbad;have h10:decide (b=[1])=false:=by simpa using hb1
  rw[h10]at h1;rcases ca with rfl|⟨m,x,hm,hx,hx0⟩
  ·rw[if_pos rfl];refine Ca.bO (n:=90) ?_;rw[aB rfl (k97:E0.fn _=_) rfl];rcases cb with rfl|⟨m2,y,hm2,hy,hy0⟩
   ·simp only[raw,LD,LL,Qc2]at h1 ⊢;cases s<;>simp[f97,h1]
   ·have p2:(0:Int)<(m2:Int)+1:=ae;have w2:av .i64 (m2:Int)=(m2:Int):=wrap_i64 ae;have hbn:decide (b=[])=false:=by
     have:¬ b=[]:=by intro e;rw[e]at hm2;simp at hm2
     simpa using this
    have hne:(((m2:Int)+1)==0)=false:=by simp;omega
    rw[hm2]at hlb;rw[Gm]at hy0;rw[hbn];simp only[raw,LD]at h1 ⊢;generalize LL b=bs at*;have i2:=idx hy;simp only[LL,Qc2];cases s<;>simp[f97,hlb,hy,i2,hy0,p2,w2,h1,hne]
  ·have p1:(0:Int)<(m:Int)+1:=ae;have w1:av .i64 (m:Int)=(m:Int):=wrap_i64 ae;have han:¬ a=[]:=by intro e;rw[e]at hm;simp at hm
   have hne:(((m:Int)+1)==0)=false:=by simp;omega
   rw[if_neg han];rw[hoa]at hx0;rw[hm]at hla;rcases cb with rfl|⟨m2,y,hm2,hy,hy0⟩
   ·refine Ca.bO (n:=90) ?_;rw[aB rfl (k97:E0.fn _=_) rfl];simp only[raw,LD]at h1 ⊢;generalize LL a=as' at*;have i1:=idx hx;simp only[LL,Qc2]at h1 ⊢;simp[f97,hla,hx,i1,hx0,p1,w1,h1,hne]
   ·have p2:(0:Int)<(m2:Int)+1:=ae;have w2:av .i64 (m2:Int)=(m2:Int):=wrap_i64 ae;have hbn:¬ b=[]:=by intro e;rw[e]at hm2;simp at hm2
    have hne2:(((m2:Int)+1)==0)=false:=by simp;omega
    have hdb:decide (b=[])=false:=by simpa using hbn
    have ea:=(mV ha).1 hoa;have eb:=(mV hb).1 Gm;obtain⟨N,hg⟩:=(Al (val a) (val b) (by unfold sz;rw[<-ea];omega) (by unfold sz;rw[<-eb];omega)).get;rw[<-ea,<-eb]at hg;have hg1:=fun m=>Ai m (enc (Nat.gcd (val a) (val b)))
    have e1:decide (enc (Nat.gcd (val a) (val b))=[1])=decide (Nat.gcd (val a) (val b)=1):=by simp[zB]
    rw[e1]at hg1;refine Ca.bO (n:=N+90) ?_;rw[aB rfl (k97:E0.fn _=_) rfl];rw[hdb,Xe0];rw[hm2]at hlb;rw[Gm]at hy0;generalize decide (Nat.gcd (val a) (val b)=1)=res at*;simp only[raw,LD]at h1 hg hg1 ⊢;generalize LL (enc (Nat.gcd (val a) (val b)))=gs,LL a=as',LL b=bs at*;have i1:=idx hx;have i2:=idx hy;simp[f97,hla,hx,i1,hx0,p1,w1,hlb,hy,i2,hy0,p2,w2,h1,hne,hne2,hg,hg1]
def bL (s:Bool)(a b:List Nat):Rat:=xn s (val a) (if b=[] then 1 else val b)
theorem nR {s:Bool}{a b:List Nat}(ha:bP a)(hb:bP b)(h:dC s a b=true):raw s a b=qD (bL s a b):=by
 unfold dC at h;simp only[Qa2]at h;obtain⟨⟨hoa,Gm⟩,hc⟩:=h;have ea:=(mV ha).1 hoa;have eb:=(mV hb).1 Gm;unfold qD qn qd bL
 by_cases hna:a=[]
 ·subst hna;rw[if_pos rfl]at hc;simp only[Qa2,Qo0,decide_eq_true_eq]at hc;obtain⟨hs,hb0⟩:=hc;subst hs hb0;rw[if_pos rfl,Ah ae,rW ae,rV ae];simp[val,raw,df]
 ·rw[if_neg hna]at hc;have hva:val a≠0:=by
   intro e;rw[e,df]at ea;exact hna ea
  by_cases hnb:b=[]
  ·subst hnb;rw[if_pos rfl,Ah ae,rW ae,rV ae,Nat.gcd_one_right,Xj0,Xj0,if_neg hva,if_pos rfl,<-ea]
  ·have hvb:val b≠0:=by
    intro e;rw[e,df]at eb;exact hnb eb
   rw[if_neg hnb];simp only[hnb,decide_false,Xe0,Qa2,decide_eq_true_eq]at hc;rw[Ah ae,rW ae,rV ae,hc.2,Xj0,Xj0,if_neg hva,if_neg hc.1,<-ea,<-eb]
theorem Ri (x:Rat):bL (qs x) (qn x) (qd x)=x:=by
 unfold bL;have h1:val (qn x)=x.num.natAbs:=aV _;have h2:(if qd x=[] then 1 else val (qd x))=x.den:=by
  unfold qd;have hd:=x.den_nz
  by_cases h:x.den=1
  ·rw[if_pos h,if_pos rfl,h]
  ·rw[if_neg h,if_neg (by rw[dO];exact hd),aV]
 rw[h1,h2,GZ]
theorem lZ {s:Bool}{a b:List Nat}(ha:bP a)(hb:bP b)(k:Nat)(la:a.length<=k)(lb:b.length<=k)(hk:1<=k)(h:dC s a b=true):qz (bL s a b)<=k:=by
 unfold bL;have hd:0<(if b=[] then 1 else val b):=by
  split
  ·omega
  ·rename_i hnb;unfold dC at h;simp only[Qa2]at h;have eb:=(mV hb).1 h.1.2;rcases Qq0 (val b) with e|e
   ·rw[e,df]at eb;exact absurd eb hnb
   ·exact e
 refine Qe2 (J4 hd) ?_;have h1:sz (val a)<=k:=by
  refine Qe2 (yz (k:=a.length) (nH ha)) la
 have h2:sz (if b=[] then 1 else val b)<=k:=by
  split
  ·rw[J3];exact hk
  ·exact Qe2 (yz (k:=b.length) (nH hb)) lb
 omega
def Rj (s:Bool)(a b:List Nat):D:=if dC s a b then raw s a b else raw false [] []
theorem Rk (s:Bool)(a b:List Nat)(la:a.length<=1000000)(lb:b.length<=1000000)(ha:bP a)(hb:bP b):Ca E0 85 [.d (raw s a b)] (.d (Rj s a b),none):=by
 obtain⟨N,t⟩:=(rY s a b la lb ha hb).get;unfold Rj;refine Ca.bO (n:=N+60) ?_;rw[aB rfl (aN 85 f85:E0.fn _=_) rfl];cases hv:dC s a b
 ·rw[hv]at t;rw[if_neg aC];simp only[raw,LD]at t ⊢;generalize LL a=as',LL b=bs at*;simp only[LL,Qc2];simp[f85,t]
 ·rw[hv]at t;rw[if_pos rfl];have l1:(LL a).length<=1000000:=by simpa[LL] using la
  have l2:(LL b).length<=1000000:=by simpa[LL] using lb
  simp only[raw,LD]at t ⊢;generalize LL a=as',LL b=bs at*;cases as' with
  | nil =>
   cases bs with
   | nil=>simp[f85,t,ai.view,most]
   | cons y ys =>
    simp only[Qf2]at l2;have m1:(ys.length+1)*4<=1099511627776:=ae;have m2:ys.length+1<=1099511627776:=ae;simp[f85,t,ai.view,most,m1,m2]
  | cons x xs =>
   simp only[Qf2]at l1;have m3:(xs.length+1)*4<=1099511627776:=ae;have m4:xs.length+1<=1099511627776:=ae;cases bs with
   | nil=>simp[f85,t,ai.view,most,m3,m4]
   | cons y ys =>
    simp only[Qf2]at l2;have m1:(ys.length+1)*4<=1099511627776:=ae;have m2:ys.length+1<=1099511627776:=ae;simp[f85,t,ai.view,most,m1,m2,m3,m4]
theorem kD (x:Rat)(hx:qz x<=1000000):Ca E0 85 [.d (qD x)] (.d (qD x),none):=by
 have h:=Rk (qs x) (qn x) (qd x) (Qe2 (Q7 x) hx) (Qe2 (Q8 x) hx) (E8 x) (E9 x);unfold Rj at h;rw[rU,if_pos rfl]at h;exact h
theorem Me (n:Nat)(x:Rat):CL E0 (n+40) 88 [.d (qD x)] []=some (.d (LD (enc x.den)),none):=by
 rw[aB rfl (aN 88 f88:E0.fn _=_) rfl];have hd:=x.den_nz;unfold qD qd
 by_cases h:x.den=1
 ·rw[if_pos h,h,Ae];simp only[raw,LD];generalize LL (qn x)=ns,qs x=s at*;simp only[LL,Qc2];simp[f88,ai.view]
 ·rw[if_neg h];have hne:¬ LL (enc x.den)=[]:=by simp[LL,dO,hd]
  simp only[raw,LD];generalize LL (qn x)=ns,LL (enc x.den)=ds,qs x=s at*;simp[f88,hne]
theorem Hd {s:Bool}{n d:Nat}(ln:sz n<=1000000)(ld:sz d<=1000000)(hd0:0<d):Ca E0 89 [dB s,.d (LD (enc n)),.d (LD (enc d))] (.d (qD (xn s n d)),none):=by
 unfold qD qn qd;rw[Ah hd0,rW hd0,rV hd0];rcases Qq0 n with rfl|hn0
 ·have e2:d / Nat.gcd 0 d=1:=by rw[Nat.gcd_zero_left];exact Nat.div_self hd0
  rw[e2];refine Ca.bO (n:=60) ?_;rw[aB rfl (k89:E0.fn _=_) rfl];simp only[raw,Nat.zero_div,df,if_true,LD,LL,Qc2];generalize List.map (fun(x:Nat)=>D.v (Value.int IntKind.u32 (x:Int))) (enc d)=ds at*;simp[f89]
 ·rw[if_neg ae];have hg:0<Nat.gcd n d:=Xt0 n hd0;have lg:sz (Nat.gcd n d)<=1000000:=Qe2 (oG (Xy1 hd0 (Xv0 n d))) ld;obtain⟨Kq,_,c1,c3,c4⟩:=((Al n d ln ld).j ((xA n (Nat.gcd n d) hg ln lg).j ((xA d (Nat.gcd n d) hg ld lg).any))).at 0;generalize Kq=N at*;have hln:¬ LL (enc n)=[]:=by
   have:¬ n=0:=ae;simp[LL,dO,this]
  have o1:=fun m=>Ai m (enc (d / Nat.gcd n d))
  have e1:decide (enc (d / Nat.gcd n d)=[1])=decide (d / Nat.gcd n d=1):=by simp[zB]
  rw[e1]at o1;generalize Nat.gcd n d=g at*;refine Ca.bO (n:=N+80) ?_;rw[aB rfl (k89:E0.fn _=_) rfl]
  by_cases hd1:d / g=1
  ·rw[if_pos hd1];rw[decide_eq_true hd1]at o1;generalize d / g=dd,n / g=nn,n % g=m1,d % g=m2 at*;simp only[raw,LD]at c1 c3 c4 o1 ⊢;generalize LL (enc n)=ns,LL (enc d)=ds,LL (enc g)=gs at*;generalize LL (enc nn)=q1,LL (enc dd)=q2,LL (enc m1)=x1,LL (enc m2)=x2 at*;simp only[LL,Qc2];simp[f89,o1,c1,c3,c4,hln]
  ·rw[if_neg hd1];rw[decide_eq_false hd1]at o1;generalize d / g=dd,n / g=nn,n % g=m1,d % g=m2 at*;simp only[raw,LD]at c1 c3 c4 o1 ⊢;generalize LL (enc n)=ns,LL (enc d)=ds,LL (enc g)=gs at*;generalize LL (enc nn)=q1,LL (enc dd)=q2,LL (enc m1)=x1,LL (enc m2)=x2 at*;simp[f89,o1,c1,c3,c4,hln]
theorem l5 (x:Rat)(hx:qz x<=1000000):Ca E0 98 [.d (qD x)] (dI x.num.sign,none):=by
 obtain⟨N,t⟩:=(kD x hx).get;refine Ca.bO (n:=N+60) ?_;rw[aB rfl (aN 98 f98:E0.fn _=_) rfl];simp only[qD,raw,LD]at*;have hs:(LL (qn x)=[]/\qs x=false/\x.num.sign=0)\/(LL (qn x)≠[]/\qs x=true/\x.num.sign=-1)\/((∃ m,(LL (qn x)).length=m+1)/\qs x=false/\x.num.sign=1):=by
  have hnil:LL (qn x)=[]↔x.num.natAbs=0:=by simp only[LL,X30];exact dO
  rw[Ne,hnil];rcases Q52 x.num 0 with h|h|h
  ·exact .inr (.inl ⟨ae,decide_eq_true h,Qz1 h⟩)
  ·exact .inl ⟨ae,decide_eq_false ae,by rw[h];rfl⟩
  ·refine .inr (.inr ⟨?_,decide_eq_false ae,Q51 h⟩);cases hl:LL (qn x) with
   | nil=>rw[hnil]at hl;omega
   | cons y r=>exact⟨r.length,rfl⟩
 generalize LL (qn x)=z1,LL (qd x)=z3,qs x=s at*;rcases hs with ⟨a,b,c⟩|⟨a,b,c⟩|⟨⟨m,a⟩,b,c⟩
 ·rw[c];subst a;subst b;simp[f98,t]
 ·rw[c];subst b;simp[f98,t,a]
 ·have hm:(0:Int)<(m:Int)+1:=ae;rw[c];subst b;simp[f98,t,a,hm]
theorem aaZ (x:Rat):qD (-x)=raw (if x.num.natAbs=0 then false else !qs x) (qn x) (qd x):=by
 unfold qD qn qd qs;rw[Rat.neg_num,Rat.neg_den,Int.natAbs_neg]
 congr 1
 rcases Q52 x.num 0 with h|h|h
 ·rw[if_neg ae,decide_eq_true h,decide_eq_false ae];rfl
 ·rw[if_pos ae,decide_eq_false ae]
 ·rw[if_neg ae,decide_eq_false (show ¬ x.num<0 by omega),decide_eq_true ae];rfl
theorem W9 (x:Rat)(hx:qz x<=1000000):Ca E0 95 [.d (qD x)] (.d (qD (-x)),none):=by
 obtain⟨N,t⟩:=(kD x hx).get;refine Ca.bO (n:=N+60) ?_;rw[aB rfl (aN 95 f95:E0.fn _=_) rfl];rw[aaZ];have hnil:LL (qn x)=[]↔x.num.natAbs=0:=by simp only[LL,X30];exact dO
 simp only[qD,raw,LD]at*;generalize LL (qd x)=z3,qs x=s at*;cases hl:LL (qn x) with
 | nil =>
  rw[if_pos (hnil.1 hl)];rw[hl]at t;simp[f95,t]
 | cons y r =>
  have:¬ x.num.natAbs=0:=by rw[<-hnil,hl];simp
  rw[if_neg this];rw[hl]at t;have hm:(0:Int)<(r.length:Int)+1:=ae;simp[f95,t,hm]
theorem uj {a b:Nat}(ha:sz a<=1000000)(hb:sz b<=1000000):Ca E0 87 [.d (LD (enc a)),.d (LD (enc b))] (.d (LD (enc (a*b))),none):=by
 unfold sz at ha hb;have:=NP (enc a) (enc b) ae ae (aU _) (aU _);simpa only[aV] using this
theorem NS {a b:Nat}(ha:sz a<=1000000)(hb:sz b<=1000000):Ca E0 90 [.d (LD (enc a)),.d (LD (enc b))] (.d (LD (enc (a+b))),none):=by
 unfold sz at ha hb;have:=Aj (enc a) (enc b) ae ae (aU _) (aU _);simpa only[aV] using this
theorem Am {a b:Nat}(ha:sz a<=1000000)(hb:b<=a):Ca E0 92 [.d (LD (enc a)),.d (LD (enc b))] (.d (LD (enc (a-b))),none):=by
 unfold sz at ha;have:=DN (enc a) (enc b) ae (bH hb) (aU _) (aU _) (by simpa only[aV] using hb);simpa only[aV] using this
theorem zC (x y:Rat)(hx:qz x<=100000)(hy:qz y<=100000):Ca E0 54 [.d (qD x),.d (qD y)] (.d (qD (x+y)),none):=by
 obtain⟨k1,t1⟩:=(kD x ae).any;obtain⟨k2,t2⟩:=(kD y ae).any;have hx1:sz x.num.natAbs<=100000:=Qe2 (Q61 _ _) hx;have hx2:sz x.den<=100000:=Qe2 (Q22 _ _) hx;have hy1:sz y.num.natAbs<=100000:=Qe2 (Q61 _ _) hy;have hy2:sz y.den<=100000:=Qe2 (Q22 _ _) hy;have b1:=gV x.num.natAbs y.den;have b2:=gV y.num.natAbs x.den;have b3:=gV x.den y.den;have b4:=@ve (qs x) (qs y) (x.num.natAbs*y.den) (y.num.natAbs*x.den);have d1:=fun m=>Me m x
 have d2:=fun m=>Me m y
 obtain⟨k3,t3⟩:=(uj (a:=x.num.natAbs) (b:=y.den) ae ae).any;obtain⟨k4,t4⟩:=(uj (a:=y.num.natAbs) (b:=x.den) ae ae).any;obtain⟨k5,t5⟩:=(uj (a:=x.den) (b:=y.den) ae ae).any;obtain⟨k6,t6⟩:=(Hd (s:=oH (qs x) (x.num.natAbs*y.den) (qs y) (y.num.natAbs*x.den)) (n:=nJ (qs x) (x.num.natAbs*y.den) (qs y) (y.num.natAbs*x.den)) (d:=x.den*y.den) ae ae (Xi2 (den_pos x) (den_pos y))).any;rw[Fa]at t6;have n1:enc x.num.natAbs=qn x:=rfl;have n2:enc y.num.natAbs=qn y:=rfl;rw[n1]at t3;rw[n2]at t4;generalize x.num.natAbs*y.den=a,y.num.natAbs*x.den=b,x.den*y.den=d at*;obtain⟨k7,t7⟩:=(NS (a:=a) (b:=b) ae ae).any;obtain⟨k8,t8⟩:=(Md a b ae ae).any
 by_cases hs:qs x=qs y
 ·have e1:oH (qs x) a (qs y) b=qs x:=by unfold oH;rw[if_pos hs]
  have e2:nJ (qs x) a (qs y) b=a+b:=by unfold nJ;rw[if_pos hs]
  rw[e1,e2]at t6;have hbq:(qs x==qs y)=true:=by simpa using hs
  replace t1:=t1 (k1+k2+k3+k4+k5+k6+k7) ae;replace t2:=t2 (k1+k2+k3+k4+k5+k6+k7) ae;replace t3:=t3 (k1+k2+k3+k4+k5+k6+k7) ae;replace t4:=t4 (k1+k2+k3+k4+k5+k6+k7) ae;replace t5:=t5 (k1+k2+k3+k4+k5+k6+k7) ae;replace t6:=t6 (k1+k2+k3+k4+k5+k6+k7) ae;replace t7:=t7 (k1+k2+k3+k4+k5+k6+k7) ae;generalize k1+k2+k3+k4+k5+k6+k7=N at*;refine Ca.bO (n:=N+90) ?_;rw[aB rfl (k54:E0.fn _=_) rfl];simp only[qD,raw,LD]at*;generalize qs (x+y)=sg,qs x=s1,qs y=s2,LL (enc x.den)=x3,LL (enc y.den)=x4,LL (qn (x+y))=x9,LL (qd (x+y))=y1,LL (qn x)=z1,LL (qn y)=z2,LL (qd x)=z3,LL (qd y)=z4,LL (enc (a+b))=x5,LL (enc a)=x6,LL (enc b)=x7,LL (enc d)=x8 at*;simp[f54,t1,t2,t3,t4,t5,t6,t7,d1,d2,hbq]
 ·have hbq:(qs x==qs y)=false:=by simpa using hs
  by_cases hab:b<=a
  ·obtain⟨k9,t9⟩:=(Am (a:=a) (b:=b) ae hab).any;have e1:oH (qs x) a (qs y) b=qs x:=by unfold oH;rw[if_neg hs,if_pos hab]
   have e2:nJ (qs x) a (qs y) b=a-b:=by unfold nJ;rw[if_neg hs,if_pos hab]
   rw[e1,e2]at t6;have hc:(0:Int)<=dH a b:=by unfold dH;rw[if_neg ae];split<;>omega
   replace t1:=t1 (k1+k2+k3+k4+k5+k6+k8+k9) ae;replace t2:=t2 (k1+k2+k3+k4+k5+k6+k8+k9) ae;replace t3:=t3 (k1+k2+k3+k4+k5+k6+k8+k9) ae;replace t4:=t4 (k1+k2+k3+k4+k5+k6+k8+k9) ae;replace t5:=t5 (k1+k2+k3+k4+k5+k6+k8+k9) ae;replace t6:=t6 (k1+k2+k3+k4+k5+k6+k8+k9) ae;replace t8:=t8 (k1+k2+k3+k4+k5+k6+k8+k9) ae;replace t9:=t9 (k1+k2+k3+k4+k5+k6+k8+k9) ae;generalize k1+k2+k3+k4+k5+k6+k8+k9=N at*;refine Ca.bO (n:=N+90) ?_;rw[aB rfl (k54:E0.fn _=_) rfl];simp only[qD,raw,LD]at*;generalize dH a b=cc,qs (x+y)=sg,qs x=s1,qs y=s2,LL (enc x.den)=x3,LL (enc y.den)=x4,LL (qn (x+y))=x9,LL (qd (x+y))=y1,LL (qn x)=z1,LL (qn y)=z2,LL (qd x)=z3,LL (qd y)=z4,LL (enc (a-b))=x5,LL (enc a)=x6,LL (enc b)=x7,LL (enc d)=x8 at*;simp[f54,t1,t2,t3,t4,t5,t6,t8,t9,d1,d2,hbq,hc]
  ·obtain⟨k9,t9⟩:=(Am (a:=b) (b:=a) ae ae).any;have e1:oH (qs x) a (qs y) b=qs y:=by unfold oH;rw[if_neg hs,if_neg hab]
   have e2:nJ (qs x) a (qs y) b=b-a:=by unfold nJ;rw[if_neg hs,if_neg hab]
   rw[e1,e2]at t6;have hc:dH a b=-1:=by unfold dH;rw[if_pos ae]
   rw[hc]at t8;replace t1:=t1 (k1+k2+k3+k4+k5+k6+k8+k9) ae;replace t2:=t2 (k1+k2+k3+k4+k5+k6+k8+k9) ae;replace t3:=t3 (k1+k2+k3+k4+k5+k6+k8+k9) ae;replace t4:=t4 (k1+k2+k3+k4+k5+k6+k8+k9) ae;replace t5:=t5 (k1+k2+k3+k4+k5+k6+k8+k9) ae;replace t6:=t6 (k1+k2+k3+k4+k5+k6+k8+k9) ae;replace t8:=t8 (k1+k2+k3+k4+k5+k6+k8+k9) ae;replace t9:=t9 (k1+k2+k3+k4+k5+k6+k8+k9) ae;generalize k1+k2+k3+k4+k5+k6+k8+k9=N at*;refine Ca.bO (n:=N+90) ?_;rw[aB rfl (k54:E0.fn _=_) rfl];simp only[qD,raw,LD]at*;generalize qs (x+y)=sg,qs x=s1,qs y=s2,LL (enc x.den)=x3,LL (enc y.den)=x4,LL (qn (x+y))=x9,LL (qd (x+y))=y1,LL (qn x)=z1,LL (qn y)=z2,LL (qd x)=z3,LL (qd y)=z4,LL (enc (b-a))=x5,LL (enc a)=x6,LL (enc b)=x7,LL (enc d)=x8 at*;simp[f54,t1,t2,t3,t4,t5,t6,t8,t9,d1,d2,hbq]
def seB:aF:=f70.body.r.r.l.r.bl.lp
def VM (ki:IntKind)(a b:List Int)(k:Nat)(t:FV):St:=(st0 [.d ((.s 1 (LK ki a))),.d ((.s 1 (LK ki b))),.u,.u,.u,dI a.length,dI k,t,.u] [])
def seF:St:=(st0 (.u::.u::dB false::qm) [])
theorem J9 (ki:IntKind)(a b:List Int)(k:Nat)(x y:Int)(la:a.length<=1000000000)(hx:a[k]?=some x)(hy:b[k]?=some y) :
  EX E0 60 seB (VM ki a b k .u)=if x=y then some (.norm,VM ki a b (k+1) .u) else some (.ret,seF):=by
 have hk:=(aS hx)
 have hx':(LK ki a)[k]?=some (.v (.int ki x)):=by simp[LK,hx]
 have hy':(LK ki b)[k]?=some (.v (.int ki y)):=by simp[LK,hy]
 have hx2:=idx hx';have hy2:=idx hy';have aP:av .i64 ((k:Int)+1)=(k:Int)+1:=wrap_i64 ae;have hk1:((k+1:Nat):Int)=(k:Int)+1:=ae;have hk0:(0:Int)<=(k:Int):=ae;unfold VM seF;rw[hk1];generalize LK ki a=as',LK ki b=bs' at*
 by_cases h:x=y
 ·subst h;simp[seB,f70,hk,hk0,hx',hx2,hy',hy2,aP]
 ·have hne:(x != y)=true:=by simpa using h
  rw[if_neg h];simp[seB,f70,hk,hk0,hx',hx2,hy',hy2,hne]
theorem NT (ki:IntKind)(a b:List Int)(la:a.length<=1000000000)(hl:a.length=b.length) :
  ∃ r,Ex E0 (.loop seB) (VM ki a b 0 .u) r/\((a=b/\r=(.exit 0,VM ki a b a.length (dB false)))\/(a≠b/\r=(.ret,seF))):=by
 refine Ex.inv (S:=fun k:Nat=>VM ki a b k .u) (fun k=>a.length-k) (fun k=>k<=a.length/\a.take k=b.take k) _ ?_ 0 ⟨ae,aC⟩;rintro k ⟨h1,h2⟩
 by_cases hk:k<a.length
 ·have hx:a[k]?=some (a[k]'hk):=Qa1 hk;have hy:b[k]?=some (b[k]'(by omega)):=Qa1 ae;have hr:=J9 ki a b k _ _ la hx hy
  by_cases h:a[k]'hk=b[k]'(by omega)
  ·rw[if_pos h]at hr;refine .inl ⟨k+1,Ex.of hr,ae,ae,?_⟩;rw[Qi1 hk,Qi1 ae,h2,h]
  ·rw[if_neg h]at hr;refine .inr ⟨_,Ex.of hr,aC,.inr ⟨?_,rfl⟩⟩;intro he;subst he;exact h rfl
 ·have he:k=a.length:=ae;subst he;rw[Qj0,hl,Qj0]at h2;refine .inr ⟨_,Ex.of (n:=60) ?_,?_,.inl ⟨h2,rfl⟩⟩
  ·unfold VM;simp[seB,f70]
  ·simp
theorem He (ki:IntKind)(a b:List Int)(la:a.length<=1000000000)(lb:b.length<=1000000000):Ca E0 70 [.d ((.s 1 (LK ki a))),.d ((.s 1 (LK ki b)))] (dB (decide (a=b)),none):=by
 have hla:(LK ki a).length=a.length:=by simp[LK]
 have hlb:(LK ki b).length=b.length:=by simp[LK]
 by_cases hl:a.length=b.length
 ·obtain⟨r,hr,h⟩:=NT ki a b la hl;have aa1:(LK ki b).length=a.length:=ae;have Rl:Ex E0 f70.body.l (st0 (.d ((.s 1 (LK ki a)))::.d ((.s 1 (LK ki b)))::nO) []) (.norm,(st0 (.d ((.s 1 (LK ki a)))::.d ((.s 1 (LK ki b)))::nO) [])):=by
   refine Ex.of (n:=40) ?_;simp[f70]
  have Rm:Ex E0 f70.body.r.l (st0 (.d ((.s 1 (LK ki a)))::.d ((.s 1 (LK ki b)))::nO) []) (.norm,(st0 (.d ((.s 1 (LK ki a)))::.d ((.s 1 (LK ki b)))::.u::.u::dB false::mO) [])):=by
   refine Ex.of (n:=40) ?_;simp[f70,hla,aa1]
  have Rn:Ex E0 f70.body.r.r.l.l (st0 (.d ((.s 1 (LK ki a)))::.d ((.s 1 (LK ki b)))::.u::.u::dB false::mO) []) (.norm,VM ki a b 0 .u):=by
   refine Ex.of (n:=40) ?_;unfold VM;simp[f70,hla]
  rcases h with ⟨he,rfl⟩|⟨he,rfl⟩
  ·have hd:decide (a=b)=true:=by simpa using he
   rw[hd];refine Ca.body (o:=.ret) (st1:=(st0 (.u::.u::dB true::qm) [])) rfl (k70:E0.fn _=_) rfl ?_ (by intro id h;cases h) ?_
   ·show Ex E0 (.seq f70.body.l (.seq f70.body.r.l (.seq (.seq f70.body.r.r.l.l (.block 0 (.loop seB))) f70.body.r.r.r))) _ _;refine Rl.seq (Rm.seq ((Rn.seq hr.block).seq (Ex.of (n:=40) ?_)));unfold VM;simp[f70]
   ·simp[f70]
  ·have hd:decide (a=b)=false:=by simpa using he
   rw[hd];refine Ca.body (o:=.ret) (st1:=seF) rfl (k70:E0.fn _=_) rfl ?_ (by intro id h;cases h) ?_
   ·show Ex E0 (.seq f70.body.l (.seq f70.body.r.l (.seq (.seq f70.body.r.r.l.l (.block 0 (.loop seB))) f70.body.r.r.r))) _ _;exact Rl.seq (Rm.seq (Ex.bN (Rn.seq hr.bG)))
   ·simp[f70,seF]
 ·have hd:decide (a=b)=false:=by
   simp only[decide_eq_false_iff_not];intro he;subst he;exact hl rfl
  have hne:((a.length:Int) != (b.length:Int))=true:=by simp;omega
  rw[hd];refine Ca.bO (n:=60) ?_;rw[aB rfl (k70:E0.fn _=_) rfl];generalize LK ki a=as',LK ki b=bs' at*;simp[f70,hla,hlb,hne]
theorem Hf (l:List Nat):LL l=LK .u32 (l.map fun(x:Nat)=>(x:Int)):=by simp[LL,LK]
theorem oI {a b:List Nat}:(a.map fun(x:Nat)=>(x:Int))=(b.map fun(x:Nat)=>(x:Int))↔a=b:=by
 constructor
 ·intro h;exact(X50 (fun x y h=>by exact_mod_cast h)).1 h
 ·rintro rfl;rfl
theorem Mf (a b:List Nat)(la:a.length<=1000000000)(lb:b.length<=1000000000):Ca E0 101 [.d (LD a),.d (LD b)] (dB (decide (a=b)),none):=by
 have h:=He .u32 (a.map fun(x:Nat)=>(x:Int)) (b.map fun(x:Nat)=>(x:Int)) (by simpa using la) (by simpa using lb);have e:decide ((a.map fun(x:Nat)=>(x:Int))=(b.map fun(x:Nat)=>(x:Int)))=decide (a=b):=by simp only[oI]
 rw[e]at h;simp only[LD,Hf];exact Ca.same ((aN 101 f101:E0.fn _=_).trans (k70:E0.fn _=_).symm) rfl rfl h
theorem Ao (s1 s2:Bool)(a1 b1 a2 b2:List Nat)(h1:a1.length<=1000000000)(h2:b1.length<=1000000000)(h3:a2.length<=1000000000)(h4:b2.length<=1000000000) :
  Ca E0 72 [.d (raw s1 a1 b1),.d (raw s2 a2 b2)] (dB (s1==s2&&decide (a1=a2)&&decide (b1=b2)),none):=by
 obtain⟨Kq,_,t1,t2⟩:=((Mf a1 a2 h1 h3).j ((Mf b1 b2 h2 h4).any)).at 0;generalize Kq=N at*;refine Ca.bO (n:=N+60) ?_;rw[aB rfl (aN 72 f72:E0.fn _=_) rfl];generalize decide (a1=a2)=p,decide (b1=b2)=q at*;simp only[raw,LD]at*;generalize LL a1=x1,LL a2=x2,LL b1=y1,LL b2=y2 at*;cases s1<;>cases s2<;>cases p<;>simp[f72,t1,t2]
def J_:aF:=f78.body.r.r.l.r.bl.lp
def C_ (a b:List Nat)(k:Nat)(t:FV):St:=(st0 [.d (LD a),.d (LD b),.u,dI k,.u,t,.u] [])
def Ro:St:=(st0 (.u::.u::dB false::mO) [])
theorem Ka (a b:List Nat)(k x y:Nat)(la:a.length<=1000000000)(hx:a[k]?=some x)(hy:b[k]?=some y) :
  EX E0 60 J_ (C_ a b k .u)=if x=y then some (.norm,C_ a b (k+1) .u) else some (.ret,Ro):=by
 have hk:=(aS hx)
 have hla:(LL a).length=a.length:=by simp[LL]
 have hx':(LL a)[k]?=some (.v (.int .u32 (x:Int))):=by simp[LL,hx]
 have hy':(LL b)[k]?=some (.v (.int .u32 (y:Int))):=by simp[LL,hy]
 have hx2:=idx hx';have hy2:=idx hy';have aP:av .i64 ((k:Int)+1)=(k:Int)+1:=wrap_i64 ae;have hk1:((k+1:Nat):Int)=(k:Int)+1:=ae;have hk0:(0:Int)<=(k:Int):=ae;have hkb:k<(LL b).length:=by simpa[LL] using(aS hy)
 unfold C_ Ro;rw[hk1];simp only[LD];generalize LL a=as',LL b=bs' at*
 by_cases h:x=y
 ·subst h;simp[J_,f78,hla,hk,hk0,hkb,hx',hx2,hy',hy2,aP]
 ·have hne:((x:Int) != (y:Int))=true:=by simp;omega
  rw[if_neg h];simp[J_,f78,hla,hk,hk0,hkb,hx',hx2,hy',hy2,hne]
theorem NU (a b:List Nat)(la:a.length<=1000000000)(hl:a.length=b.length) :
  ∃ r,Ex E0 (.loop J_) (C_ a b 0 .u) r/\((a=b/\r=(.exit 0,C_ a b a.length (dB false)))\/(a≠b/\r=(.ret,Ro))):=by
 refine Ex.inv (S:=fun k:Nat=>C_ a b k .u) (fun k=>a.length-k) (fun k=>k<=a.length/\a.take k=b.take k) _ ?_ 0 ⟨ae,aC⟩;rintro k ⟨h1,h2⟩
 by_cases hk:k<a.length
 ·have hx:a[k]?=some (a[k]'hk):=Qa1 hk;have hy:b[k]?=some (b[k]'(by omega)):=Qa1 ae;have hr:=Ka a b k _ _ la hx hy
  by_cases h:a[k]'hk=b[k]'(by omega)
  ·rw[if_pos h]at hr;refine .inl ⟨k+1,Ex.of hr,ae,ae,?_⟩;rw[Qi1 hk,Qi1 ae,h2,h]
  ·rw[if_neg h]at hr;refine .inr ⟨_,Ex.of hr,aC,.inr ⟨?_,rfl⟩⟩;intro he;subst he;exact h rfl
 ·have he:k=a.length:=ae;subst he;have hla:(LL a).length=a.length:=by simp[LL]
  rw[Qj0,hl,Qj0]at h2;refine .inr ⟨_,Ex.of (n:=60) ?_,?_,.inl ⟨h2,rfl⟩⟩
  ·unfold C_;simp only[LD];generalize LL a=as' at*;generalize LL b=bs' at*;generalize a.length=m at*;simp[J_,f78,hla]
  ·simp
theorem Fh (a b:List Nat)(la:a.length<=1000000000)(lb:b.length<=1000000000):Ca E0 78 [.d (LD a),.d (LD b)] (dB (decide (a=b)),none):=by
 have hla:(LL a).length=a.length:=by simp[LL]
 have hlb:(LL b).length=b.length:=by simp[LL]
 by_cases hl:a.length=b.length
 ·obtain⟨r,hr,h⟩:=NU a b la hl;have aa1:(LL b).length=a.length:=ae;have Rl:Ex E0 f78.body.l (st0 (.d (LD a)::.d (LD b)::iO) []) (.norm,(st0 (.d (LD a)::.d (LD b)::iO) [])):=by
   refine Ex.of (n:=40) ?_;simp[f78]
  have Rm:Ex E0 f78.body.r.l (st0 (.d (LD a)::.d (LD b)::iO) []) (.norm,(st0 [.d (LD a),.d (LD b),.u,.u,dB false,.u,.u] [])):=by
   refine Ex.of (n:=40) ?_;simp[f78,LD,hla,aa1]
  have Rn:Ex E0 f78.body.r.r.l.l (st0 [.d (LD a),.d (LD b),.u,.u,dB false,.u,.u] []) (.norm,C_ a b 0 .u):=by
   refine Ex.of (n:=40) ?_;unfold C_;simp[f78,LD,hla]
  rcases h with ⟨he,rfl⟩|⟨he,rfl⟩
  ·have hd:decide (a=b)=true:=by simpa using he
   rw[hd];refine Ca.body (o:=.ret) (st1:=(st0 (.u::.u::dB true::mO) [])) rfl (k78:E0.fn _=_) rfl ?_ (by intro id h;cases h) ?_
   ·show Ex E0 (.seq f78.body.l (.seq f78.body.r.l (.seq (.seq f78.body.r.r.l.l (.block 0 (.loop J_))) f78.body.r.r.r))) _ _;refine Rl.seq (Rm.seq ((Rn.seq hr.block).seq (Ex.of (n:=40) ?_)));unfold C_;simp[f78]
   ·simp[f78]
  ·have hd:decide (a=b)=false:=by simpa using he
   rw[hd];refine Ca.body (o:=.ret) (st1:=Ro) rfl (k78:E0.fn _=_) rfl ?_ (by intro id h;cases h) ?_
   ·show Ex E0 (.seq f78.body.l (.seq f78.body.r.l (.seq (.seq f78.body.r.r.l.l (.block 0 (.loop J_))) f78.body.r.r.r))) _ _;exact Rl.seq (Rm.seq (Ex.bN (Rn.seq hr.bG)))
   ·simp[f78,Ro]
 ·have hd:decide (a=b)=false:=by
   simp only[decide_eq_false_iff_not];intro he;subst he;exact hl rfl
  have hne:((a.length:Int) != (b.length:Int))=true:=by simp;omega
  rw[hd];refine Ca.bO (n:=60) ?_;rw[aB rfl (k78:E0.fn _=_) rfl];simp only[LD];generalize LL a=as',LL b=bs' at*;simp[f78,hla,hlb,hne]
theorem l6 (s1 s2:Bool)(a1 b1 a2 b2:List Nat)(h1:a1.length<=1000000000)(h2:b1.length<=1000000000)(h3:a2.length<=1000000000)(h4:b2.length<=1000000000) :
  Ca E0 39 [.d (raw s1 a1 b1),.d (raw s2 a2 b2)] (dB (s1==s2&&decide (a1=a2)&&decide (b1=b2)),none):=by
 obtain⟨Kq,_,t1,t2⟩:=((Fh a1 a2 h1 h3).j ((Fh b1 b2 h2 h4).any)).at 0;generalize Kq=N at*;refine Ca.bO (n:=N+60) ?_;rw[aB rfl (aN 39 f39:E0.fn _=_) rfl];generalize decide (a1=a2)=p,decide (b1=b2)=q at*;simp only[raw,LD]at*;generalize LL a1=x1,LL a2=x2,LL b1=y1,LL b2=y2 at*;cases s1<;>cases s2<;>cases p<;>simp[f39,t1,t2]
theorem Ap (n:Nat)(s:Bool)(a b:List Nat)(k:Int) :
  CL E0 (n+40) 94 [.d (raw s a b),dI k] []=some (dB (decide ((a.length:Int)<=k)&&decide ((b.length:Int)<=k)),none):=by
 rw[aB rfl (aN 94 f94:E0.fn _=_) rfl];have hla:(LL a).length=a.length:=by simp[LL]
 have hlb:(LL b).length=b.length:=by simp[LL]
 simp only[raw,LD]at*;generalize LL a=x1,LL b=y1 at*
 by_cases h1:(a.length:Int)<=k<;>by_cases h2:(b.length:Int)<=k<;>simp[f94,hla,hlb,h1,h2]
theorem W_ (x y:Rat)(hx:qz x<=100000)(hy:qz y<=100000):Ca E0 62 [.d (qD x),.d (qD y)] (.d (qD (x-y)),none):=by
 obtain⟨Kq,_,t1,t2⟩:=((W9 y ae).j ((zC x (-y) hx (by rw[aaS];omega)).any)).at 0;rw[<-Rat.sub_eq_add_neg]at t2;generalize Kq=N at*;refine Ca.bO (n:=N+60) ?_;rw[aB rfl (aN 62 f62:E0.fn _=_) rfl];simp only[qD,raw,LD]at*;generalize qs (x-y)=sg,qs (-y)=s3,qs x=s1,qs y=s2,LL (qn (x-y))=x9,LL (qd (x-y))=y1,LL (qn (-y))=x8,LL (qd (-y))=y8,LL (qn x)=z1,LL (qn y)=z2,LL (qd x)=z3,LL (qd y)=z4 at*;simp[f62,t1,t2]
theorem Hg (x y:Rat)(hx:qz x<=100000)(hy:qz y<=100000):Ca E0 93 [.d (qD x),.d (qD y)] (dI (x-y).num.sign,none):=by
 obtain⟨k1,t1⟩:=(W_ x y hx hy).any;have:=Q_ x y;obtain⟨k2,t2⟩:=(l5 (x-y) ae).any;replace t1:=t1 (k1+k2) ae;replace t2:=t2 (k1+k2) ae;generalize k1+k2=N at*;refine Ca.bO (n:=N+60) ?_;rw[aB rfl (aN 93 f93:E0.fn _=_) rfl];generalize (x-y).num.sign=res at*;simp only[qD,raw,LD]at*;generalize qs (x-y)=sg,qs x=s1,qs y=s2,LL (qn (x-y))=x9,LL (qd (x-y))=y1,LL (qn x)=z1,LL (qn y)=z2,LL (qd x)=z3,LL (qd y)=z4 at*;simp[f93,t1,t2]
theorem Hl (x y:Rat):((x-y).num.sign<0↔x<y)/\(0<(x-y).num.sign↔y<x):=by
 have h1:=Rat.lt_iff_sub_pos x y;have h2:=Rat.lt_iff_sub_pos y x;have p:∀ z:Rat,0<z↔0<z.num:=by
  intro z;constructor
  ·intro h;have a:=Rat.num_nonneg.2 (Rat.le_of_lt h);have b:z.num≠0:=by
    intro e;rw[Rat.num_eq_zero.1 e]at h;exact absurd h fV
   omega
  ·intro h;have a:=Rat.num_nonneg.1 (show 0<=z.num by omega);have b:z≠0:=by
    intro e;rw[e]at h;exact absurd h fV
   exact Rat.lt_of_le_of_ne a (Ne.symm b)
 have e:(y-x).num=-(x-y).num:=by
  rw[<-Rat.neg_num]
  congr 1
  grind
 rw[p,e]at h1;rw[p]at h2;rw[h1,h2];rcases Q52 (x-y).num 0 with h|h|h
 ·rw[Qz1 h];omega
 ·rw[h];simp
 ·rw[Q51 h];omega
theorem Hm (x y:Rat)(hx:qz x<=100000)(hy:qz y<=100000):Ca E0 55 [.d (qD x),.d (qD y)] (dB (decide (x<y)),none):=by
 obtain⟨N,t⟩:=(Hg x y hx hy).get;have e:decide ((x-y).num.sign<0)=decide (x<y):=by simp only[(Hl x y).1]
 rw[<-e];refine Ca.bO (n:=N+60) ?_;rw[aB rfl (aN 55 f55:E0.fn _=_) rfl];generalize (x-y).num.sign=res at*;simp only[qD,raw,LD]at*;generalize qs x=s1,qs y=s2,LL (qn x)=z1,LL (qn y)=z2,LL (qd x)=z3,LL (qd y)=z4 at*;simp[f55,t]
theorem vD (n:Nat)(v:Int)(hv:-9223372036854775808<=v/\v<9223372036854775808):CL E0 (n+40) 107 [dI v] []=some (.d (.v (.int .u64 v.natAbs)),none):=by
 rw[aB rfl (aN 107 f107:E0.fn _=_) rfl]
 by_cases h:v<0
 ·have w1:av .i64 (v+1)=v+1:=wrap_i64 ae;have w2:IntKind.wrap .i64 (-(v+1))=-(v+1):=by rw[<-cB];exact wrap_i64 ae
  have w3:av .u64 (-(v+1))=-(v+1):=wrap_u64 ae;have w4:av .u64 (-(v+1)+1)=(v.natAbs:Int):=by rw[wrap_u64 ae];omega
  generalize v.natAbs=va at*;simp[f107,h,w1,w2,w3,w4]
 ·have w1:av .u64 v=(v.natAbs:Int):=by rw[fE];omega
  generalize v.natAbs=va at*;simp[f107,h,w1]
theorem Aq (v:Nat)(hv:v<18446744073709551616):Ca E0 106 [.d (.v (.int .u64 v))] (.d (LD (enc v)),none):=by
 obtain⟨n0,hc⟩:=(vk [v % 4294967296,v / 4294967296] aC).get;rw[Mc hv]at hc;have w2:av .u32 (v:Int)=((v % 4294967296:Nat):Int):=by rw[dA];omega
 have w3:Int.fdiv (v:Int) 4294967296=((v / 4294967296:Nat):Int):=by
  rw[Qm2 _ ae];omega
 have w4:av .u32 ((v / 4294967296:Nat):Int)=((v / 4294967296:Nat):Int):=wrap_u32 ae;refine Ca.bO (n:=n0+60) ?_;rw[aB rfl (aN 106 f106:E0.fn _=_) rfl];simp only[LD,LL,Qe1,Qc2]at hc ⊢;generalize List.map (fun(x:Nat)=>D.v (Value.int IntKind.u32 (x:Int))) (enc v)=res at*;generalize v / 4294967296=hi,v % 4294967296=lo at*;simp[IntKind.bits,f106,w2,w3,w4,hc]
theorem Rp (a b:Int)(ha:-9223372036854775808<=a/\a<9223372036854775808)(hb:-9223372036854775808<=b/\b<9223372036854775808)(h0:b≠0) :
  Ca E0 77 [dI a,dI b] (.d (.t [qD (G6 a b),vI 0]),none):=by
 have l1:=Fe ha;have l2:=Fe hb;have a1:=fun m=>vD m a ha
 have a2:=fun m=>vD m b hb
 obtain⟨Kq,_,t1,t2,t3⟩:=((Aq a.natAbs ae).j ((Aq b.natAbs ae).j ((Hd (s:=decide (a<0) != decide (b<0)) (n:=a.natAbs) (d:=b.natAbs) ae ae ae).any))).at 0;have e:xn (decide (a<0) != decide (b<0)) a.natAbs b.natAbs=G6 a b:=rfl;rw[e]at t3;generalize Kq=N at*;refine Ca.bO (n:=N+80) ?_;rw[aB rfl (aN 77 f77:E0.fn _=_) rfl];have hb0:(b==0)=false:=by simpa using h0
 simp only[qD,raw,LD]at*;generalize LL (qn (G6 a b))=x9,LL (qd (G6 a b))=y1,qs (G6 a b)=sg,LL (enc a.natAbs)=x1,LL (enc b.natAbs)=x2 at*;generalize a.natAbs=na,b.natAbs=nb at*;simp only[bne]at t3;simp[f77,lY,a1,a2,t1,t2,t3,hb0]
theorem aa2 (a b:Int)(ha:-9223372036854775808<=a/\a<9223372036854775808)(hb:-9223372036854775808<=b/\b<9223372036854775808)(h0:b≠0) :
  Ca E0 38 [dI a,dI b] (.d (qD (G6 a b)),none):=by
 obtain⟨N,t⟩:=(Rp a b ha hb h0).get;refine Ca.bO (n:=N+80) ?_;rw[aB rfl (aN 38 f38:E0.fn _=_) rfl];simp only[qD,raw,LD]at*;generalize LL (qn (G6 a b))=x9,LL (qd (G6 a b))=y1,qs (G6 a b)=sg at*;simp[f38,lY,t]
end Fi.S
