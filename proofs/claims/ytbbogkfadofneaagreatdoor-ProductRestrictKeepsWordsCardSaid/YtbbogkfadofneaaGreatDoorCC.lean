import Derived.Test.YtbbogkfadofneaaGreatDoorCB
set_option linter.unusedVariables false
set_option linter.unusedSimpArgs false
noncomputable section
namespace Fi.S
open Go Fi
set_option maxHeartbeats 8000000
theorem Ca.same {E:Env}{g g':Nat}{args:List FV}{r:FV × Option (List ah)}(hf:E.fn g'=E.fn g)(hp:E.iV g=none)(hp':E.iV g'=none)(h:Ca E g args r)(hB:E.iH g'=E.iH g:=by rfl):Ca E g' args r:=by
 obtain⟨n0,h⟩:=h;refine⟨n0+1,fun n hn => ?_⟩;obtain⟨m,rfl⟩:∃ m,n=m+1:=⟨n-1,ae⟩
 rw[<-h (m+1) ae];simp only[cu,enter,hf,hp,hp',hB]
theorem v_ (l:List Nat)(hl:l.length<=1000000000):Ca E0 169 [.d (LD l)] (.d (LD (trim l)),none) :=
 Ca.same (g:=231) ((aM 169 f169:E0.fn _=_).trans (k231:E0.fn _=_).symm) rfl rfl (iE l hl)
theorem wh (n:Nat)(l:List Nat)(hl:l.length<=1000000000)(i:Nat)(hi:i<=1000000000)(hb:∀ x ∈ l,x<4294967296) :
  CL E0 (n+30) 173 [.d (LD l),dI i] []=some (.d (.v (.int .u64 (bE l i))),none):=by
 rw[av rfl (aM 173 f173:E0.fn _=_) rfl]
 by_cases h:i<l.length
 ·have h1:¬ ((i:Int) ≥ (l.length:Int)):=ae;have h2:¬ ((l.length:Int)<=(i:Int)):=ae;have h3:¬ (l.length<=i):=ae;have hx:l[i]?=some l[i]:=Qa1 h;have hw:ai .u64 (l[i]:Int)=(l[i]:Int):=wrap_u64 (by have:=hb l[i] (Qi0 h);omega);have ha:bE l i=l[i]:=by simp[bE,hx]
  simp[f173,LD,LL,h,h1,h2,h3,hx,hw,ha]
 ·have h1:((i:Int) ≥ (l.length:Int)):=ae;have h2:l.length<=i:=ae;have ha:bE l i=0:=by simp[bE,Qn2 (Nat.le_of_not_lt h)]
  simp[f173,LD,LL,h1,h2,ha]
theorem IA (n:Nat)(v:Int):CL E0 (n+30) 174 [dI v] []=some (dI v.sign,none):=by
 rw[av rfl (aM 174 f174:E0.fn _=_) rfl];rcases Q81 v 0 with h|h|h
 ·rw[Q00 h];simp[f174,h]
 ·rw[h];simp[f174]
 ·have h2:¬ v<0:=ae;rw[Q80 h];simp[f174,h,h2]
theorem Br (n:Nat)(l:List Nat):CL E0 (n+30) 172 [.d (LD l)] []=some (dB (decide (l=[1])),none):=by
 rw[av rfl (aM 172 f172:E0.fn _=_) rfl]
 match l with
 | []=>simp[f172,LD,LL]
 | [x] =>
  by_cases h:x=1
  ·subst h;simp[f172,LD,LL]
  ·have h2:((x:Int)==1)=false:=by simp;omega
   simp[f172,LD,LL,h,h2]
 | x::y::r =>
  have h2:(((r.length:Int)+1+1)==1)=false:=by simp;omega
  have h3:(((r.length:Int)+1)==0)=false:=by simp;omega
  simp[f172,LD,LL,h2,h3]
def cpB:aF:=f91.body.r.r.l.r.bl.lp
def RO (a b:List Nat)(k:Int)(t:FV):St:=(st0 [.d (LD a),.d (LD b),.u,dI k,.u,t,.u] [])
def cpR (s:Int):St:=(st0 (.u::.u::dI s::vR) [])
theorem Tf (a b:List Nat):EX E0 40 cpB (RO a b (-1) .u)=some (.exit 0,RO a b (-1) (dB false)):=by
 unfold RO;simp only[LD];generalize LL a=as',LL b=bs at*;simp[cpB,f91]
theorem Ld (a b:List Nat)(k x y:Nat)(hk:k<=1000000000)(hx:a[k]?=some x)(hy:b[k]?=some y)(hxl:x<4294967296)(hyl:y<4294967296) :
  EX E0 80 cpB (RO a b k .u)=if x=y then some (.norm,RO a b ((k:Int)-1) .u) else some (.ret,cpR ((x:Int)-(y:Int)).sign):=by
 have hxa:(LL a)[k]?=some (.v (.int .u32 (x:Int))):=by simp[LL,hx]
 have hxb:(LL b)[k]?=some (.v (.int .u32 (y:Int))):=by simp[LL,hy]
 have ha:k<(LL a).length:=by simpa[LL] using(bq hx)
 have hb:k<(LL b).length:=by simpa[LL] using(bq hy)
 have hdec:ai .i64 ((k:Int)-1)=(k:Int)-1:=wrap_i64 ae;have hk0:(0:Int)<=(k:Int):=ae;have w1:ai .i64 (x:Int)=(x:Int):=wrap_i64 ae;have w2:ai .i64 (y:Int)=(y:Int):=wrap_i64 ae;have w3:ai .i64 ((x:Int)-(y:Int))=(x:Int)-(y:Int):=wrap_i64 ae;have hs:=IA;unfold RO cpR;simp only[LD];generalize LL a=as',LL b=bs at*;have i1:=idx hxa;have i2:=idx hxb
 by_cases h:x=y
 ·rw[if_pos h];subst h;simp[cpB,f91,hk0,ha,hb,hxa,hxb,i1,i2,hdec]
 ·have hne:((x:Int) != (y:Int))=true:=by simp;omega
  rw[if_neg h];simp[cpB,f91,hk0,ha,hb,hxa,hxb,i1,i2,hne,w1,w2,w3,hs]
theorem yh (l:List Nat)(k:Nat):val l=b_ l k+4294967296 ^ k*val (l.drop k):=by
 unfold b_;rcases Nat.le_total k l.length with h|h
 ·conv=>lhs;rw[<-Xe0 k l,val_append,Qr0,Xr1 h]
 ·rw[Qe1 h,iG h,Nat.mul_zero,Q70]
theorem Pv (a b:List Nat)(ha:bY a)(hb:bY b)(hl:a.length=b.length)(hm:a.length<=1000000000) :
  ∃ r,Ex E0 (.loop cpB) (RO a b ((a.length:Int)-1) .u) r/\((r=(.exit 0,RO a b (-1) (dB false))/\val a=val b)\/∃ s,r=(.ret,cpR s)/\s=dR (val a) (val b)):=by
 refine Ex.inv (S:=fun j:Nat=>RO a b ((j:Int)-1) .u) (fun j=>j) (fun j=>j<=a.length/\val (a.drop j)=val (b.drop j)) _ ?_ a.length ?_
 ·rintro j ⟨h1,h2⟩;cases j with
  | zero =>
   refine .inr ⟨_,?_,aA,.inl ⟨rfl,by simpa using h2⟩⟩;have:=Tf a b;simpa using Ex.of this
  | succ k =>
   have hx:a[k]?=some (a[k]'(by omega)):=Qa1 ae;have hy:b[k]?=some (b[k]'(by omega)):=Qa1 ae;have ex:bE a k=a[k]'(by omega):=by simp[bE,hx]
   have ey:bE b k=b[k]'(by omega):=by simp[bE,hy]
   have hxl:=ha _ (Qi0 (show k<a.length by omega));have hyl:=hb _ (Qi0 (show k<b.length by omega));generalize a[k]'(by omega)=x,b[k]'(by omega)=y at*;have hr:=Ld a b k x y ae hx hy hxl hyl;simp only[show(((k+1:Nat):Int)-1)=(k:Int) by omega];have da:=jc a k;have db:=jc b k
   by_cases h:x=y
   ·rw[if_pos h]at hr;refine .inl ⟨k,Ex.of hr,ae,ae,?_⟩;rw[da,db,ex,ey,h,h2]
   ·rw[if_neg h]at hr;refine .inr ⟨_,Ex.of hr,aA,.inr ⟨_,rfl,?_⟩⟩;have sa:=yh a k;have sb:=yh b k;rw[da,ex]at sa;rw[db,ey,<-h2]at sb;have la:=om ha k;have lb:=om hb k;unfold dR;rcases Nat.lt_or_gt_of_ne h with hlt|hgt
    ·have:=jF (va:=b_ a k) (vb:=b_ b k) (P:=4294967296 ^ k) (x:=x+4294967296*val (a.drop (k+1))) (y:=y+4294967296*val (a.drop (k+1))) la ae;rw[if_pos ae,Q00 ae]
    ·have:=jF (va:=b_ b k) (vb:=b_ a k) (P:=4294967296 ^ k) (x:=y+4294967296*val (a.drop (k+1))) (y:=x+4294967296*val (a.drop (k+1))) lb ae;rw[if_neg ae,if_neg ae,Q80 ae]
 ·exact⟨Qd1 _,by rw[iG (Qd1 _),iG ae]⟩
theorem NP (a b:Nat)(la:sz a<=1000000000)(lb:sz b<=1000000000):Ca E0 91 [.d (LD (enc a)),.d (LD (enc b))] (dI (dR a b),none):=by
 unfold sz at la lb;have uN:(LL (enc a)).length=(enc a).length:=by simp[LL]
 have DX:(LL (enc b)).length=(enc b).length:=by simp[LL]
 by_cases hl:(enc a).length=(enc b).length
 ·obtain⟨r,hloop,hq⟩:=Pv (enc a) (enc b) (aQ a) (aQ b) hl la;rw[aW,aW]at hq;have hdec:ai .i64 (((enc a).length:Int)-1)=((enc a).length:Int)-1:=wrap_i64 ae;have hA:Ex E0 f91.body.l (st0 (.d (LD (enc a))::.d (LD (enc b))::lI) []) (.norm,(st0 (.d (LD (enc a))::.d (LD (enc b))::lI) [])):=by
   refine Ex.of (n:=40) ?_;simp[f91]
  have hB:Ex E0 f91.body.r.l (st0 (.d (LD (enc a))::.d (LD (enc b))::lI) []) (.norm,(st0 [.d (LD (enc a)),.d (LD (enc b)),.u,.u,dB false,.u,.u] [])):=by
   refine Ex.of (n:=40) ?_;simp only[LD];generalize LL (enc a)=as',LL (enc b)=bs at*;simp[f91,uN,DX,hl]
  have hC:Ex E0 f91.body.r.r.l.l (st0 [.d (LD (enc a)),.d (LD (enc b)),.u,.u,dB false,.u,.u] []) (.norm,RO (enc a) (enc b) (((enc a).length:Int)-1) .u):=by
   refine Ex.of (n:=40) ?_;unfold RO;simp only[LD];generalize LL (enc a)=as',LL (enc b)=bs,(enc a).length=m at*;simp[f91,uN,hdec]
  rcases hq with ⟨rfl,he⟩|⟨s,rfl,rfl⟩
  ·subst he;have e0:dR a a=0:=by simp[dR]
   rw[e0];refine Ca.body (o:=.ret) (st1:=cpR 0) rfl (k91:E0.fn _=_) rfl ?_ (by intro id h;cases h) (by unfold cpR;simp[f91]);show Ex E0 (.seq f91.body.l (.seq f91.body.r.l (.seq (.seq f91.body.r.r.l.l (.block 0 (.loop cpB))) f91.body.r.r.r))) _ _;refine hA.seq (hB.seq ((hC.seq hloop.block).seq (Ex.of (n:=40) ?_)));unfold RO cpR;simp[f91]
  ·refine Ca.body (o:=.ret) (st1:=cpR (dR a b)) rfl (k91:E0.fn _=_) rfl ?_ (by intro id h;cases h) (by unfold cpR;simp[f91]);show Ex E0 (.seq f91.body.l (.seq f91.body.r.l (.seq (.seq f91.body.r.r.l.l (.block 0 (.loop cpB))) f91.body.r.r.r))) _ _;exact hA.seq (hB.seq ((hC.seq hloop.dA).dX))
 ·have hw:ai .i64 (((enc a).length:Int)-((enc b).length:Int))=((enc a).length:Int)-((enc b).length:Int):=wrap_i64 ae;have hs:=IA;have hc:(((enc a).length:Int)-((enc b).length:Int)).sign=dR a b:=by
   have ga:=xZ a;have gb:=xZ b;unfold dR;rcases Nat.lt_or_gt_of_ne hl with h|h
   ·have hb0:0<b:=by
     rcases Qq0 b with e|e
     ·rw[e,dD]at h;simp at h
     ·exact e
    have h2:=La hb0;have h3:=Qt0 (n:=4294967296) ae (show(enc a).length<=(enc b).length-1 by omega);rw[if_pos ae,Q00 ae]
   ·have ha0:0<a:=by
     rcases Qq0 a with e|e
     ·rw[e,dD]at h;simp at h
     ·exact e
    have h2:=La ha0;have h3:=Qt0 (n:=4294967296) ae (show(enc b).length<=(enc a).length-1 by omega);rw[if_neg ae,if_neg ae,Q80 ae]
  have hne:(((enc a).length:Int) != ((enc b).length:Int))=true:=by simp;omega
  refine Ca.bP (n:=90) ?_;rw[av rfl (k91:E0.fn _=_) rfl];rw[<-hc];simp only[LD];generalize LL (enc a)=as',LL (enc b)=bs,(enc a).length=m1,(enc b).length=m2 at*;simp[f91,uN,DX,hne,hw,hs]
def wpB:aF:=f90.body.r.r.r.l.r.bl.lp
def wpS (a b o:List Nat)(k s:Nat)(t:FV):St:=(st0 [.d (LD a),.d (LD b),.u,dY k,.d (.v (.int .u64 s)),dI k,.u,t] (dZ k (LL o)))
theorem Pw (a b o:List Nat)(k s:Nat)(hc:¬ k<=max a.length b.length):EX E0 60 wpB (wpS a b o k s .u)=some (.exit 0,wpS a b o k s (dB false)):=by
 have uN:(LL a).length=a.length:=by simp[LL]
 have DX:(LL b).length=b.length:=by simp[LL]
 have hmax:(if a.length<b.length then(b.length:Int) else(a.length:Int))=((max a.length b.length:Nat):Int):=by split<;>omega
 unfold wpS;simp only[LD];generalize dY k=ov,dZ k (LL o)=oh,LL a=as',LL b=bs,max a.length b.length=mm at*;simp[wpB,f90,uN,DX,hmax,hc]
theorem IB (a b o:List Nat)(k s:Nat)(hk:k<=1000000000)(la:a.length<=1000000000)(lb:b.length<=1000000000)(ha:bY a)(hb:bY b)(ho:o.length=k)(hs:s<4294967296)(hc:k<=max a.length b.length) :
  EX E0 80 wpB (wpS a b o k s .u)=some (.norm,wpS a b (o++[(bE a k+bE b k+s) % 4294967296]) (k+1) ((bE a k+bE b k+s) / 4294967296) .u):=by
 have h1:=fun m=>wh m a la k hk ha
 have h2:=fun m=>wh m b lb k hk hb
 have xa:=dm ha k;have xb:=dm hb k;have uN:(LL a).length=a.length:=by simp[LL]
 have DX:(LL b).length=b.length:=by simp[LL]
 have hmax:(if a.length<b.length then(b.length:Int) else(a.length:Int))=((max a.length b.length:Nat):Int):=by split<;>omega
 simp only[LD]at h1 h2;have aR:ai .i64 ((k:Int)+1)=(k:Int)+1:=wrap_i64 ae;generalize bE a k=x,bE b k=y at*;have w1:ai .u64 ((x:Int)+(y:Int))=(x:Int)+(y:Int):=wrap_u64 ae;have w2:ai .u64 ((x:Int)+(y:Int)+(s:Int))=(x:Int)+(y:Int)+(s:Int):=wrap_u64 ae;have w3:ai .u32 ((x:Int)+(y:Int)+(s:Int))=((x:Int)+(y:Int)+(s:Int)) % 4294967296:=dJ _;have w4:Int.fdiv ((x:Int)+(y:Int)+(s:Int)) 4294967296=((x:Int)+(y:Int)+(s:Int)) / 4294967296:=Qm0 _ ae;have RN:LL (o++[(x+y+s) % 4294967296])=LL o++[.v (.int .u32 (((x:Int)+(y:Int)+(s:Int)) % 4294967296))]:=by simp[LL]
 have hol:(LL o).length=k:=by simp[LL,ho]
 have hv1:dY (k+1)=.ls (.loc 0) k 1 0 (k+1):=by simp[dY]
 have D6:∀ l,dZ (k+1) l=[.row k 1 l]:=by intro l;simp[dZ]
 have hm1:(k+1)*4<=most:=by simp[most];omega
 have hm2:k+1<=most:=by simp[most];omega
 have htk:(LL o).take k=LL o:=Qe1 ae;have hk1:((k+1:Nat):Int)=(k:Int)+1:=ae;have hs1:(((x+y+s) / 4294967296:Nat):Int)=((x:Int)+(y:Int)+(s:Int)) / 4294967296:=ae;unfold wpS;rw[RN,hv1,D6,hk1,hs1]
 by_cases hk0:k=0
 ·have hv:dY k=.d (.n 1):=by simp[dY,hk0]
  have hh:∀ l,dZ k l=[]:=by intro l;simp[dZ,hk0]
  have ho0:o=[]:=Qo0 ae;have hLo:LL o=[]:=by rw[ho0];rfl
  have hm3:1*4<=most:=by simp[most]
  have hm4:1<=most:=by simp[most]
  have hvk:FV.ls (.loc 0) 0 1 0 1=FV.ls (.loc 0) k 1 0 (k+1):=by rw[hk0]
  have hhk:∀ l,ah.row 0 1 l=ah.row k 1 l:=by intro l;rw[hk0]
  rw[hv,hh,hLo,<-hvk,<-hhk];simp only[LD];generalize LL a=as',LL b=bs,max a.length b.length=mm at*;simp[IntKind.bits,wpB,f90,uN,DX,hmax,hc,h1,h2,aR,w1,w2,w3,w4,hm4,most]
 ·have hv:dY k=.ls (.loc 0) (k-1) 1 0 k:=by simp[dY,hk0]
  have hh:∀ l,dZ k l=[.row (k-1) 1 l]:=by intro l;simp[dZ,hk0]
  have hk2:k-1+1=k:=ae;rw[hv,hh];simp only[LD];generalize LL a=as',LL b=bs,max a.length b.length=mm at*;simp[IntKind.bits,wpB,f90,uN,DX,hmax,hc,h1,h2,aR,w1,w2,w3,w4,hm1,hm2,hol,htk,hk2]
theorem Lf (a b:List Nat)(la:a.length<=100000000)(lb:b.length<=100000000)(ha:bY a)(hb:bY b) :
  ∃ r,Ex E0 (.loop wpB) (wpS a b [] 0 0 .u) r/\∃ o s,bY o/\val o=val a+val b/\o.length=max a.length b.length+1/\r=(.exit 0,wpS a b o o.length s (dB false)):=by
 refine Ex.inv (S:=fun t:List Nat × Nat × Nat=>wpS a b t.1 t.2.1 t.2.2 .u) (fun t=>max a.length b.length+2-t.2.1) (plI a b) _ ?_ ([],0,0) ?_
 ·rintro⟨o,k,s⟩ ⟨h1,h2,h3,h4,h5,h6⟩;simp only at h1 h2 h3 h4 h5 h6;have xa:=dm ha k;have xb:=dm hb k
  by_cases hc:k<=max a.length b.length
  ·have hr:=IB a b o k s ae ae ae ha hb h1 h4 hc;refine .inl ⟨(o++[(bE a k+bE b k+s) % 4294967296],k+1,(bE a k+bE b k+s) / 4294967296),Ex.of hr,by simp only;omega,?_,?_,?_,?_,?_,?_⟩
   ·simp[h1]
   ·simp only;omega
   ·intro he;simp only at he ⊢;have e1:bE a k=0:=by unfold bE;rw[Qn2 ae];rfl
    have e2:bE b k=0:=by unfold bE;rw[Qn2 ae];rfl
    rw[e1,e2];omega
   ·simp only;omega
   ·exact iF h5 (fun x hx=>by simp at hx;subst hx;exact Qu0 _ ae)
   ·simp only;rw[val_append,h1,Qm1,<-h6,jc a k,jc b k];have hv:val [(bE a k+bE b k+s) % 4294967296]=(bE a k+bE b k+s) % 4294967296:=by simp[val]
    rw[hv];exact Ew ae
  ·have hr:=Pw a b o k s hc;refine .inr ⟨_,Ex.of hr,aA,o,s,h5,?_,ae,by rw[h1]⟩;rw[iG ae,iG ae]at h6;have:s=0:=h3 ae;subst this;simpa using h6
 ·refine⟨rfl,aA,?_,aA,?_,?_⟩
  ·simp
  ·intro x hx;cases hx
  ·simp[val]
theorem Bt (a b:List Nat)(la:a.length<=100000000)(lb:b.length<=100000000)(ha:bY a)(hb:bY b) :
  Ca E0 90 [.d (LD a),.d (LD b)] (.d (LD (enc (val a+val b))),none):=by
 obtain⟨r,hl,o,s,ho,hv,hol,rfl⟩:=Lf a b la lb ha hb;obtain⟨n0,hc⟩:=(v_ o ae).get;rw[df ho,hv]at hc;have hlo:(LL o).length=o.length:=by simp[LL]
 have htk:(LL o).take o.length=LL o:=Qe1 ae;have hv1:dY o.length=.ls (.loc 0) (o.length-1) 1 0 o.length:=by unfold dY;rw[if_neg ae]
 have D6:∀ l,dZ o.length l=[.row (o.length-1) 1 l]:=by intro l;unfold dZ;rw[if_neg ae]
 generalize enc (val a+val b)=res at*;refine Ca.body (o:=.ret) (st1:=(st0 (.u::.u::.d (LD res)::lI) [.gK (o.length-1) 1 (LL o)])) rfl (aM 90 f90:E0.fn _=_) rfl ?_ (by intro id h;cases h) ?_
 ·show Ex E0 (.seq f90.body.l (.seq f90.body.r.l (.seq f90.body.r.r.l (.seq (.seq f90.body.r.r.r.l.l (.block 0 (.loop wpB))) f90.body.r.r.r.r)))) _ _;refine Ex.seq (st1:=(st0 (.d (LD a)::.d (LD b)::qO) [])) (Ex.of (n:=40) ?_)
   (Ex.seq (st1:=(st0 (.d (LD a)::.d (LD b)::.u::.d (.n 1)::vR) [])) (Ex.of (n:=40) ?_)
   (Ex.seq (st1:=(st0 [.d (LD a),.d (LD b),.u,.d (.n 1),.d (.v (.int .u64 0)),.u,.u,.u] [])) (Ex.of (n:=40) ?_)
   (Ex.seq (Ex.seq (st1:=wpS a b [] 0 0 .u) (Ex.of (n:=40) ?_) hl.block) (Ex.of (n:=n0+40) ?_))))
  ·simp[f90]
  ·simp[f90]
  ·simp[f90]
  ·simp[wpS,dY,dZ,f90]
  ·unfold wpS;clear hl;simp only[LD]at hc ⊢;rw[hv1,D6];generalize o.length-1=m,LL o=es at*;generalize o.length=l at*;simp[ah.view,f90,hlo,htk,hc]
 ·simp[f90,LD]
def wmB:aF:=f92.body.r.r.r.l.r.bl.lp
def RP (a b o:List Nat)(k s:Nat)(t:FV):St:=(st0 [.d (LD a),.d (LD b),.u,dY k,.d (.v (.int .u64 s)),dI k,.u,t] (dZ k (LL o)))
theorem Lg (a b o:List Nat)(k s:Nat)(hc:¬ k<a.length):EX E0 60 wmB (RP a b o k s .u)=some (.exit 0,RP a b o k s (dB false)):=by
 have uN:(LL a).length=a.length:=by simp[LL]
 unfold RP;simp only[LD];generalize dY k=ov,dZ k (LL o)=oh,LL a=as',LL b=bs at*;simp[wmB,f92,uN,hc]
theorem Gq (a b o:List Nat)(k s s' d:Nat)(hk:k<a.length)(la:a.length<=1000000000)(lb:b.length<=1000000000)(ha:bY a)(hb:bY b)(ho:o.length=k)(hs:s<=1)
  (hd:d<4294967296) (hs':s'<=1) (hdig:bE a k+4294967296*s'=d+bE b k+s) :
  EX E0 80 wmB (RP a b o k s .u)=some (.norm,RP a b (o++[d]) (k+1) s' .u):=by
 have h1:=fun m=>wh m a la k ae ha
 have h2:=fun m=>wh m b lb k ae hb
 have xa:=dm ha k;have xb:=dm hb k;have uN:(LL a).length=a.length:=by simp[LL]
 simp only[LD]at h1 h2;have aR:ai .i64 ((k:Int)+1)=(k:Int)+1:=wrap_i64 ae;generalize bE a k=x,bE b k=y at*;have w1:ai .u64 ((x:Int)+4294967296)=(x:Int)+4294967296:=wrap_u64 ae;have w2:ai .u64 ((x:Int)+4294967296-(y:Int))=(x:Int)+4294967296-(y:Int):=wrap_u64 ae;obtain⟨Z,hZ⟩:∃ Z:Nat,(Z:Int)=(x:Int)+4294967296-(y:Int)-(s:Int):=⟨x+4294967296-y-s,ae⟩
 have w3:ai .u64 ((x:Int)+4294967296-(y:Int)-(s:Int))=(Z:Int):=by rw[wrap_u64 ae];omega
 have w4:ai .u32 (Z:Int)=(d:Int):=by rw[dJ];omega
 have w5:Int.fdiv (Z:Int) 4294967296=1-(s':Int):=by rw[Qm0 _ ae];omega
 have w6:ai .u64 (1-(1-(s':Int)))=(s':Int):=by rw[wrap_u64 ae];omega
 clear hZ;have RN:LL (o++[d])=LL o++[.v (.int .u32 (d:Int))]:=by simp[LL]
 have hol:(LL o).length=k:=by simp[LL,ho]
 have hv1:dY (k+1)=.ls (.loc 0) k 1 0 (k+1):=by simp[dY]
 have D6:∀ l,dZ (k+1) l=[.row k 1 l]:=by intro l;simp[dZ]
 have hm1:(k+1)*4<=most:=by simp[most];omega
 have hm2:k+1<=most:=by simp[most];omega
 have htk:(LL o).take k=LL o:=Qe1 ae;have hk1:((k+1:Nat):Int)=(k:Int)+1:=ae;unfold RP;rw[RN,hv1,D6,hk1]
 by_cases hk0:k=0
 ·have hv:dY k=.d (.n 1):=by simp[dY,hk0]
  have hh:∀ l,dZ k l=[]:=by intro l;simp[dZ,hk0]
  have ho0:o=[]:=Qo0 ae;have hLo:LL o=[]:=by rw[ho0];rfl
  have hm3:1*4<=most:=by simp[most]
  have hm4:1<=most:=by simp[most]
  have hvk:FV.ls (.loc 0) 0 1 0 1=FV.ls (.loc 0) k 1 0 (k+1):=by rw[hk0]
  have hhk:∀ l,ah.row 0 1 l=ah.row k 1 l:=by intro l;rw[hk0]
  rw[hv,hh,hLo,<-hvk,<-hhk];simp only[LD];generalize LL a=as',LL b=bs,a.length=mm at*;simp[IntKind.bits,wmB,f92,uN,hk,h1,h2,aR,w1,w2,w3,w4,w5,w6,hm4,most]
 ·have hv:dY k=.ls (.loc 0) (k-1) 1 0 k:=by simp[dY,hk0]
  have hh:∀ l,dZ k l=[.row (k-1) 1 l]:=by intro l;simp[dZ,hk0]
  have hk2:k-1+1=k:=ae;rw[hv,hh];simp only[LD];generalize LL a=as',LL b=bs,a.length=mm at*;simp[IntKind.bits,wmB,f92,uN,hk,h1,h2,aR,w1,w2,w3,w4,w5,w6,hm1,hm2,hol,htk,hk2]
theorem IC (a b:List Nat)(la:a.length<=100000000)(lb:b.length<=a.length)(ha:bY a)(hb:bY b)(hab:val b<=val a) :
  ∃ r,Ex E0 (.loop wmB) (RP a b [] 0 0 .u) r/\∃ o,bY o/\val o=val a-val b/\o.length=a.length/\r=(.exit 0,RP a b o a.length 0 (dB false)):=by
 refine Ex.inv (S:=fun t:List Nat × Nat=>RP a b t.1 t.1.length t.2 .u) (fun t=>a.length-t.1.length) (miI a b) _ ?_ ([],0) ?_
 ·rintro⟨o,s⟩ ⟨h1,h2,h3,h4⟩;simp only at h1 h2 h3 h4;have xa:=dm ha o.length;have xb:=dm hb o.length
  by_cases hk:o.length<a.length
  ·obtain⟨d,s',hd,hs',hdig⟩:∃ d s',d<4294967296/\s'<=1/\bE a o.length+4294967296*s'=d+bE b o.length+s:=by
    by_cases hc:bE b o.length+s<=bE a o.length
    ·exact⟨bE a o.length-(bE b o.length+s),0,ae,ae,ae⟩
    ·exact⟨bE a o.length+4294967296-(bE b o.length+s),1,ae,ae,ae⟩
   have hr:=Gq a b o o.length s s' d hk ae ae ha hb rfl h2 hd hs' hdig;refine .inl ⟨(o++[d],s'),?_,?_,?_,?_,?_,?_⟩
   ·simp only[Qb0,Qg0,Qr1];exact Ex.of hr
   ·simp only[Qb0,Qg0,Qr1];omega
   ·simp only[Qb0,Qg0,Qr1];omega
   ·exact hs'
   ·exact iF h3 (fun x hx=>by simp at hx;subst hx;exact hd)
   ·simp only[Qb0,Qg0,Qr1,Qx1];rw[eF,eF,val_append,Qm1];have hv:val [d]=d:=by simp[val]
    rw[hv];exact A7 h4 hdig
  ·have he:o.length=a.length:=ae;rw[he,fM (Qd1 _),fM lb]at h4;have hlt:=nT h3;rw[he]at hlt;have hs0:s=0:=by
    rcases Qg1 s 1 with h|h
    ·omega
    ·have:s=1:=ae;subst this;generalize 4294967296 ^ a.length=p at*;omega
   subst hs0;refine .inr ⟨_,?_,?_,o,h3,ae,he,rfl⟩
   ·simp only[he];exact Ex.of (Lg a b o a.length 0 ae)
   ·simp
 ·refine⟨aA,aA,?_,?_⟩
  ·intro x hx;cases hx
  ·simp[val,b_]
theorem EF (a b:List Nat)(la:a.length<=100000000)(lb:b.length<=a.length)(ha:bY a)(hb:bY b)(hab:val b<=val a) :
  Ca E0 92 [.d (LD a),.d (LD b)] (.d (LD (enc (val a-val b))),none):=by
 obtain⟨r,hl,o,ho,hv,hol,rfl⟩:=IC a b la lb ha hb hab;obtain⟨n0,hc⟩:=(v_ o ae).get;rw[df ho,hv]at hc;have hlo:(LL o).length=a.length:=by simp[LL,hol]
 have htk:(LL o).take a.length=LL o:=Qe1 ae;generalize enc (val a-val b)=res at*;refine Ca.body (o:=.ret) (st1:=(st0 (.u::.u::.d (LD res)::lI) (if a.length=0 then [] else [.gK (a.length-1) 1 (LL o)]))) rfl (aM 92 f92:E0.fn _=_) rfl ?_ (by intro id h;cases h) ?_
 ·show Ex E0 (.seq f92.body.l (.seq f92.body.r.l (.seq f92.body.r.r.l (.seq (.seq f92.body.r.r.r.l.l (.block 0 (.loop wmB))) f92.body.r.r.r.r)))) _ _;refine Ex.seq (st1:=(st0 (.d (LD a)::.d (LD b)::qO) [])) (Ex.of (n:=40) ?_)
   (Ex.seq (st1:=(st0 (.d (LD a)::.d (LD b)::.u::.d (.n 1)::vR) [])) (Ex.of (n:=40) ?_)
   (Ex.seq (st1:=(st0 [.d (LD a),.d (LD b),.u,.d (.n 1),.d (.v (.int .u64 0)),.u,.u,.u] [])) (Ex.of (n:=40) ?_)
   (Ex.seq (Ex.seq (st1:=RP a b [] 0 0 .u) (Ex.of (n:=40) ?_) hl.block) (Ex.of (n:=n0+40) ?_))))
  ·simp[f92]
  ·simp[f92]
  ·simp[f92]
  ·simp[RP,dY,dZ,f92]
  ·unfold RP;clear hl
   by_cases h0:a.length=0
   ·have hLo:LL o=[]:=Qo0 ae;have ho0:o=[]:=Qo0 ae;have hv1:dY a.length=.d (.n 1):=by unfold dY;rw[if_pos h0]
    have D6:∀ l,dZ a.length l=[]:=by intro l;unfold dZ;rw[if_pos h0]
    rw[if_pos h0,hv1,D6];rw[ho0]at hc;simp only[LD,LL,Qc1]at hc ⊢;generalize List.map (fun(x:Nat)=>D.v (Value.int IntKind.u32 (x:Int))) res=rs at*;simp[f92,hc]
   ·have hv1:dY a.length=.ls (.loc 0) (a.length-1) 1 0 a.length:=by unfold dY;rw[if_neg h0]
    have D6:∀ l,dZ a.length l=[.row (a.length-1) 1 l]:=by intro l;unfold dZ;rw[if_neg h0]
    rw[if_neg h0,hv1,D6];simp only[LD]at hc ⊢;generalize a.length-1=m,LL o=es at*;generalize a.length=l at*;simp[ah.view,f92,hlo,htk,hc]
 ·simp[f92,LD]
def IE:aF:=f87.body.r.r.l.r.bl.lp
def wjB:aF:=IE.r.l.bl.r.l.r.bl.lp
def Tg (a b:List Nat)(es:List D)(n i c k:Nat)(t:FV):St:=(st0 [.d (LD a),.d (LD b),.u,.ls (.loc 0) 0 1 0 n,dI i,.d (.v (.int .u64 c)),dI k,.u,.u,t] [.row 0 1 es])
theorem abR (a b:List Nat)(es:List D)(n i c:Nat):EX E0 60 wjB (Tg a b es n i c b.length .u)=some (.exit 2,Tg a b es n i c b.length (dB false)):=by
 have DX:(LL b).length=b.length:=by simp[LL]
 unfold Tg;simp only[LD];generalize LL a=as',LL b=bs,b.length=lb at*;simp[wjB,IE,f87,DX]
theorem Ti (a b:List Nat)(es:List D)(n i c k x y p:Nat)(hx:a[i]?=some x)(hy:b[k]?=some y)(hp:es[i+k]?=some (.v (.int .u32 (p:Int))))(hn:es.length=n)
  (hxl:x<4294967296) (hyl:y<4294967296) (hpl:p<4294967296) (hcl:c<4294967296) (hi:i<=1000000000) (hk:k<=1000000000) :
  EX E0 90 wjB (Tg a b es n i c k .u)=some (.norm,Tg a b (es.set (i+k) (.v (.int .u32 (((x*y+p+c) % 4294967296:Nat):Int)))) n i ((x*y+p+c) / 4294967296) (k+1) .u):=by
 have hxa:(LL a)[i]?=some (.v (.int .u32 (x:Int))):=by simp[LL,hx]
 have hyb:(LL b)[k]?=some (.v (.int .u32 (y:Int))):=by simp[LL,hy]
 have ha:i<(LL a).length:=by simpa[LL] using(bq hx)
 have hb:k<(LL b).length:=by simpa[LL] using(bq hy)
 have hpn:i+k<n:=by rw[<-hn];exact(bq hp)
 have aR:ai .i64 ((k:Int)+1)=(k:Int)+1:=wrap_i64 ae;have hk1:((k+1:Nat):Int)=(k:Int)+1:=ae;have hik:ai .i64 ((i:Int)+(k:Int))=((i+k:Nat):Int):=by rw[wrap_i64 ae];omega
 have w1:ai .u64 (x:Int)=(x:Int):=wrap_u64 ae;have w2:ai .u64 (y:Int)=(y:Int):=wrap_u64 ae;have w3:ai .u64 (p:Int)=(p:Int):=wrap_u64 ae;have hm:x*y<=4294967295*4294967295:=Q72 ae ae;have hxy:(x:Int)*(y:Int)=((x*y:Nat):Int):=aA;obtain⟨M,hM⟩:∃ M,M=x*y:=⟨_,rfl⟩
 rw[<-hM]at hxy hm ⊢;have w4:ai .u64 ((x:Int)*(y:Int))=(M:Int):=by rw[hxy];exact wrap_u64 ae
 have w5:ai .u64 ((M:Int)+(p:Int))=((M+p:Nat):Int):=by rw[wrap_u64 ae];omega
 have w6:ai .u64 (((M+p:Nat):Int)+(c:Int))=((M+p+c:Nat):Int):=by rw[wrap_u64 ae];omega
 obtain⟨T,hT⟩:∃ T,T=M+p+c:=⟨_,rfl⟩
 rw[<-hT]at w6 ⊢;have w7:ai .u32 (T:Int)=((T % 4294967296:Nat):Int):=by rw[dJ];omega
 have w8:Int.fdiv (T:Int) 4294967296=((T / 4294967296:Nat):Int):=by rw[Qm0 _ ae];omega
 clear hT hM hxy hm;unfold Tg;rw[hk1];generalize T % 4294967296=d,T / 4294967296=c' at*;simp only[LD];generalize LL a=as',LL b=bs,i+k=j,M+p=Mp at*;have i1:=idx hxa;have i2:=idx hyb;have i3:=idx hp;have hlt:j<es.length:=ae;simp[IntKind.bits,wjB,IE,f87,ha,hb,hxa,hyb,hp,i1,i2,i3,hpn,hn,aR,hik,w1,w2,w3,w4,w5,w6,w7,w8]
theorem Px (P:List Nat)(m j d:Nat)(hj:j<P.length):(LL (row0 P m)).set j (.v (.int .u32 (d:Int)))=LL (row0 (P.set j d) m):=by
 simp only[LL,row0,Qp2];rw[Q50 _ _ (by simpa using hj),Q62]
theorem Tj (P:List Nat)(m j:Nat)(hj:j<P.length):(LL (row0 P m))[j]?=some (.v (.int .u32 ((bE P j:Nat):Int))):=by
 simp only[LL,row0,Qp2];rw[Qa0 (by simpa using hj)];simp[bE,Qa1 hj]
theorem Yk {vP vP' Pj p d c c' x y V vb B:Nat}(h1:vP'+Pj*p=vP+Pj*d)(h2:x*y+p+c=d+B*c')(h3:vP+Pj*c=V):vP'+Pj*B*c'=V+Pj*(x*y):=by
 have:Pj*(x*y)+Pj*p+Pj*c=Pj*d+Pj*B*c':=by rw[Q52,<-Xb0,<-Xb0,h2,Xb0]
 omega
theorem Yl (a b P:List Nat)(m i x:Nat)(hx:a[i]?=some x)(la:a.length<=100000000)(lb:b.length<=100000000)(ha:bY a)(hb:bY b)(hP:bY P)(hl:P.length=i+b.length)(hv:val P=b_ a i*val b) :
  ∃ r,Ex E0 (.loop wjB) (Tg a b (LL (row0 P m)) (i+b.length+m) i 0 0 .u) r /\
   ∃ Q c,bY Q/\Q.length=i+b.length/\c<4294967296/\val Q+4294967296 ^ (i+b.length)*c=b_ a (i+1)*val b/\r=(.exit 2,Tg a b (LL (row0 Q m)) (i+b.length+m) i c b.length (dB false)):=by
 have hil:i<a.length:=(bq hx)
 have hxl:x<4294967296:=ha _ (Qa2 hx);have hxe:bE a i=x:=by simp[bE,hx]
 refine Ex.inv (S:=fun t:List Nat × Nat × Nat=>Tg a b (LL (row0 t.1 m)) (i+b.length+m) i t.2.1 t.2.2 .u) (fun t=>b.length-t.2.2)
  (fun t=>bY t.1/\t.1.length=i+b.length/\t.2.1<4294967296/\t.2.2<=b.length/\val t.1+4294967296 ^ (i+t.2.2)*t.2.1=val P+4294967296 ^ i*(x*b_ b t.2.2)) _ ?_ (P,0,0) ?_
 ·rintro⟨Q,c,k⟩ ⟨h1,h2,h3,h4,h5⟩;simp only at h1 h2 h3 h4 h5
  by_cases hk:k<b.length
  ·have hy:b[k]?=some (b[k]'hk):=Qa1 hk;have hye:bE b k=b[k]'hk:=by simp[bE,hy]
   have hyl:=hb _ (Qi0 hk);generalize b[k]'hk=y at*;have hpl:bE Q (i+k)<4294967296:=dm h1 _;have hr:=Ti a b (LL (row0 Q m)) (i+b.length+m) i c k x y (bE Q (i+k)) hx hy (Tj Q m _ ae) (by rw[qW];omega) hxl hyl hpl h3 ae ae;rw[Px _ _ _ _ ae]at hr;have hm:x*y<=4294967295*4294967295:=Q72 ae ae;refine .inl ⟨(Q.set (i+k) ((x*y+bE Q (i+k)+c) % 4294967296),(x*y+bE Q (i+k)+c) / 4294967296,k+1),Ex.of hr,by simp only;omega,F_ h1 (Qu0 _ ae),by simp[h2],by simp only;omega,by simp only;omega,?_⟩;simp only;have hs:=Ai Q (i+k) ((x*y+bE Q (i+k)+c) % 4294967296) ae;have:=Yk (vb:=0) hs (show x*y+bE Q (i+k)+c=(x*y+bE Q (i+k)+c) % 4294967296+4294967296*((x*y+bE Q (i+k)+c) / 4294967296) by omega) h5;rw[<-Qu1,Qm1,this,eF,hye,Xb0,Xb0,<-Qu1]
   congr 1
   rw[Qx0];generalize 4294967296 ^ i=A;generalize 4294967296 ^ k=C;grind
  ·have hke:k=b.length:=ae;subst hke;rw[fM (Qd1 _)]at h5;refine .inr ⟨_,Ex.of (abR a b (LL (row0 Q m)) (i+b.length+m) i c),aA,Q,c,h1,h2,h3,?_,rfl⟩;rw[h5,hv,eF,hxe,Qp1]
   congr 1
   rw[Q52]
 ·refine⟨hP,hl,aA,aA,?_⟩;simp[b_,val]
def KM (a b:List Nat)(es:List D)(n i:Nat)(t:FV):St:=(st0 [.d (LD a),.d (LD b),.u,.ls (.loc 0) 0 1 0 n,dI i,.u,.u,.u,t,.u] [.row 0 1 es])
theorem abS (a b:List Nat)(es:List D)(n:Nat):EX E0 60 IE (KM a b es n a.length .u)=some (.exit 0,KM a b es n a.length (dB false)):=by
 have uN:(LL a).length=a.length:=by simp[LL]
 unfold KM;simp only[LD];generalize LL a=as',LL b=bs,a.length=la at*;simp[IE,f87,uN]
theorem Ym (a b:List Nat)(la:a.length<=100000000)(lb:b.length<=100000000)(ha:bY a)(hb:bY b) :
  ∃ r,Ex E0 (.loop IE) (KM a b (LL (row0 [] (a.length+b.length))) (a.length+b.length) 0 .u) r /\
   ∃ O,bY O/\O.length=a.length+b.length/\val O=val a*val b/\r=(.exit 0,KM a b (LL O) (a.length+b.length) a.length (dB false)):=by
 have e:LL (row0 [] (a.length+b.length))=LL (row0 (List.replicate b.length 0) (a.length-0)):=by
  simp only[row0,Qw0,X1];rw[List.replicate_append_replicate,Xo2]
 rw[e];refine Ex.inv (S:=fun t:List Nat × Nat=>KM a b (LL (row0 t.1 (a.length-t.2))) (a.length+b.length) t.2 .u) (fun t=>a.length-t.2)
  (fun t=>t.2<=a.length/\t.1.length=t.2+b.length/\bY t.1/\val t.1=b_ a t.2*val b) _ ?_ (List.replicate b.length 0,0) ?_
 ·rintro⟨P,i⟩ ⟨h1,h2,h3,h4⟩;simp only at h1 h2 h3 h4
  by_cases hi:i<a.length
  ·obtain⟨m,hm⟩:∃ m,a.length-i=m+1:=⟨a.length-i-1,ae⟩
   have hx:a[i]?=some (a[i]'hi):=Qa1 hi;obtain⟨r,hr,Q,c,g1,g2,g3,g4,rfl⟩:=Yl a b P (m+1) i _ hx la lb ha hb h3 h2 h4;rw[show i+b.length+(m+1)=a.length+b.length by omega]at hr;refine .inl ⟨(Q++[c],i+1),?_,by simp only;omega,by simp only;omega,by simp[g2];omega,iF g1 (fun y hy=>by simp at hy;subst hy;exact g3),?_⟩
   ·simp only[hm,show a.length-(i+1)=m by omega];have uN:(LL a).length=a.length:=by simp[LL]
    have DX:(LL b).length=b.length:=by simp[LL]
    have aR:ai .i64 ((i:Int)+1)=(i:Int)+1:=wrap_i64 ae;have hk1:((i+1:Nat):Int)=(i:Int)+1:=ae;have hib:ai .i64 ((i:Int)+(b.length:Int))=((i+b.length:Nat):Int):=by rw[wrap_i64 ae];omega
    have w1:ai .u32 (c:Int)=(c:Int):=wrap_u32 ae;have hz:=NC Q m;have hset:=H_ Q m c;rw[g2]at hz hset;have hle:(LL (row0 Q (m+1))).length=a.length+b.length:=by rw[qW];omega
    have hlt:i+b.length<a.length+b.length:=ae;rw[<-hset];clear hset;show Ex E0 (.seq IE.l (.seq (.block 1 (.seq IE.r.l.bl.l (.seq (.seq IE.r.l.bl.r.l.l (.block 2 (.loop wjB))) IE.r.l.bl.r.r))) IE.r.r)) _ _;refine Ex.seq (st1:=KM a b (LL (row0 P (m+1))) (a.length+b.length) i (dB true)) (Ex.of (n:=40) ?_)
     (Ex.seq (st1:=KM a b ((LL (row0 Q (m+1))).set (i+b.length) (.v (.int .u32 (c:Int)))) (a.length+b.length) i .u)
      (Ex.gp (Ex.seq (st1:={KM a b (LL (row0 P (m+1))) (a.length+b.length) i .u with vars:=(.d (LD a)::.d (LD b)::.u::.ls (.loc 0) 0 1 0 (a.length+b.length)::dI i::.d (.v (.int .u64 0))::vR)}) (Ex.of (n:=40) ?_)
       (Ex.seq (Ex.seq (Ex.of (n:=40) ?_) hr.block) (Ex.of (n:=40) ?_)))) (Ex.of (n:=40) ?_))
    ·unfold KM;simp only[LD];generalize LL a=as' at*;generalize LL b=bs at*;generalize LL (row0 P (m+1))=es at*;simp[IE,f87,uN,hi]
    ·unfold KM;simp only[LD];generalize LL a=as' at*;generalize LL b=bs at*;generalize LL (row0 P (m+1))=es at*;simp[IE,f87]
    ·unfold KM Tg;simp only[LD];generalize LL a=as' at*;generalize LL b=bs at*;generalize LL (row0 P (m+1))=es at*;simp[IE,f87]
    ·unfold KM Tg;simp only[LD];generalize LL a=as' at*;generalize LL b=bs at*;generalize LL (row0 Q (m+1))=es at*;have hz2:=idx hz;generalize i+b.length=j at*;generalize b.length=lb' at*;generalize a.length+lb'=n at*;simp[IE,f87,DX,hib,hz,hz2,hle,hlt,w1]
    ·unfold KM;simp only[LD];rw[hk1];generalize LL a=as' at*;generalize LL b=bs at*;generalize List.set _ _ _=es at*;simp[IE,f87,aR]
   ·simp only;rw[val_append,g2,<-g4];simp[val]
  ·have hi2:i=a.length:=ae;subst hi2;rw[fM (Qd1 _)]at h4;refine .inr ⟨_,?_,?_,P,h3,h2,h4,rfl⟩
   ·simp only[Xo1,Ey];exact Ex.of (abS a b (LL P) (a.length+b.length))
   ·simp
 ·refine⟨aA,aA,?_,?_⟩
  ·intro x hx;have:=Xf1 hx;omega
  ·have:∀ m,val (List.replicate m 0)=0:=by
    intro m
    induction m with
    | zero=>rfl
    | succ m ih=>rw[Xg0,val,ih]
   simp[b_,val,this]
theorem Py (a b:List Nat)(la:a.length<=100000000)(lb:b.length<=100000000)(ha:bY a)(hb:bY b) :
  Ca E0 87 [.d (LD a),.d (LD b)] (.d (LD (enc (val a*val b))),none):=by
 obtain⟨r,hl,o,ho,hol,hv,rfl⟩:=Ym a b la lb ha hb;obtain⟨n0,hc⟩:=(v_ o ae).get;rw[df ho,hv]at hc;have hlo:(LL o).length=a.length+b.length:=by simp[LL,hol]
 have uN:(LL a).length=a.length:=by simp[LL]
 have DX:(LL b).length=b.length:=by simp[LL]
 have htk:(LL o).take (a.length+b.length)=LL o:=Qe1 ae;have hz:=vV (a.length+b.length);generalize enc (val a*val b)=res at*;refine Ca.body (o:=.ret) (st1:=(st0 (.u::.u::.d (LD res)::sO) [.gK 0 1 (LL o)])) rfl (aM 87 f87:E0.fn _=_) rfl ?_ (by intro id h;cases h) ?_
 ·show Ex E0 (.seq f87.body.l (.seq f87.body.r.l (.seq (.seq f87.body.r.r.l.l (.block 0 (.loop IE))) f87.body.r.r.r))) _ _;refine Ex.seq (st1:=(st0 (.d (LD a)::.d (LD b)::zZ) [])) (Ex.of (n:=40) ?_)
   (Ex.seq (st1:=(st0 (.d (LD a)::.d (LD b)::.u::.ls (.loc 0) 0 1 0 (a.length+b.length)::qO) [.row 0 1 (LL (row0 [] (a.length+b.length)))])) (Ex.of (n:=40) ?_)
   (Ex.seq (Ex.seq (Ex.of (n:=40) ?_) hl.block) (Ex.of (n:=n0+40) ?_)))
  ·simp[f87]
  ·have hw:ai .i64 ((a.length:Int)+(b.length:Int))=((a.length+b.length:Nat):Int):=by rw[wrap_i64 ae];omega
   have hmb:a.length+b.length<=200000000:=ae;rw[hz];generalize a.length+b.length=m at*;have hm1:(m:Int)*4<=1099511627776:=ae;have hm2:(m:Int)<=1099511627776:=ae;simp[f87,LD,uN,DX,hw,hm1,hm2,most]
  ·unfold KM;simp[f87,LD]
  ·unfold KM;simp only[LD]at hc ⊢;clear hl;generalize LL o=es,a.length+b.length=m at*;simp[ah.view,f87,hlo,htk,hc]
 ·simp[f87,LD]
theorem Yn {l:List Nat}(h:bY l)(n:Nat):bE l n=val l / 4294967296 ^ n % 4294967296:=by
 have h1:=yh l n;have h2:=om h n;have h3:=jc l n;have h4:=dm h n;have h5:val l / 4294967296 ^ n=val (l.drop n):=by
  rw[h1,X02 _ _ (Qq2 ae),Xa0 h2,Qx1]
 rw[h5,h3];omega
theorem and1 {x:Nat}(hx:x<4294967296):jH .u32 (x:Int) 1=((x % 2:Nat):Int):=by
 rw[sW,<-bS]
 change ai .u32 ((BitVec.ofInt 32 (x:Int) &&& BitVec.ofInt 32 1).toNat:Int)=_
 rw[BitVec.ofInt_natCast];have e1:BitVec.ofInt 32 1=BitVec.ofNat 32 1:=by rfl
 rw[e1,BitVec.toNat_and,BitVec.toNat_ofNat,BitVec.toNat_ofNat,Qv2 ae,Qv2 ae,Nat.and_one_is_mod];exact wrap_u32 ae
theorem ahQ {s:Nat}(hs:s<32):KW .u32 1 (s:Int)=((2 ^ s:Nat):Int):=by
 rw[Ah,<-bS];have h2:min ((s:Int).toNat) (IntKind.bits .u32)=s:=by simp[IntKind.bits];omega
 have h3:2 ^ s<4294967296:=by
  have:=X10 (a:=2) ae hs;simpa using this
 rw[h2,Int.one_mul];have e:((2:Int) ^ s)=((2 ^ s:Nat):Int):=aA;rw[e];generalize 2 ^ s=p at*;exact wrap_u32 ae
theorem or_bit {L s:Nat}(hL:L<4294967296)(hs:s<32)(h:L % 2 ^ (s+1)=0):Ba .u32 (L:Int) ((2 ^ s:Nat):Int)=((L+2 ^ s:Nat):Int)/\L+2 ^ s<4294967296:=by
 have h3:2 ^ s<2 ^ (s+1):=X10 ae ae;have e1:L=(L / 2 ^ (s+1)) <<< (s+1):=by
  rw[Nat.shiftLeft_eq];have:=Xr0 L (2 ^ (s+1));rw[h,Q70,Ql1]at this;exact this.symm
 have e2:L ||| 2 ^ s=L+2 ^ s:=by
  have:=Xn0 h3 (L / 2 ^ (s+1));rw[<-e1]at this;exact this.symm
 have hp:2 ^ s<4294967296:=by
  have:=X10 (a:=2) ae hs;simpa using this
 have hor:L ||| 2 ^ s<2 ^ 32:=Nat.or_lt_two_pow (by simpa using hL) (by simpa using hp);have hlt:L+2 ^ s<4294967296:=by rw[<-e2];simpa using hor
 refine⟨?_,hlt⟩;rw[xY,<-bS]
 change ai .u32 ((BitVec.ofInt 32 (L:Int) ||| BitVec.ofInt 32 ((2 ^ s:Nat):Int)).toNat:Int)=_
 rw[BitVec.ofInt_natCast,BitVec.ofInt_natCast,BitVec.toNat_or,BitVec.toNat_ofNat,BitVec.toNat_ofNat,Qv2 (by simpa using hL),Qv2 (by simpa using hp),e2];exact wrap_u32 ae
def EG:aF:=f171.body.r.r.r.l.r.bl.lp
def okr (rv:FV)(r:Nat):Prop:=rv=.d (LD (enc r))\/(r=0/\rv=.d (.n 1))
def D7 (a b:List Nat)(es:List D)(n:Nat)(rv:FV)(i:Int)(t t8 t9:FV):St:=(st0 [.d (LD a),.d (LD b),.u,.u,.ls (.loc 0) 0 1 0 n,rv,dI i,t,t8,t9] [.row 0 1 es])
theorem abT (a b:List Nat)(es:List D)(n:Nat)(rv:FV):EX E0 60 EG (D7 a b es n rv (-1) .u .u .u)=some (.exit 0,D7 a b es n rv (-1) (dB false) .u .u):=by
 unfold D7;simp only[LD];generalize LL a=as',LL b=bs at*;simp[EG,f171]
theorem ae3 (a b:List Nat)(es:List D)(n:Nat)(rv:FV)(r:Nat)(i:Int)(h:okr rv r)(lr:sz r<=10000000) :
  Ex E0 EG.r.l.bl.l (D7 a b es n rv i (dB true) .u .u) (.norm,D7 a b es n (.d (LD (enc (2*r)))) i .u .u .u):=by
 unfold sz at lr;obtain⟨N,t⟩:=(Bt (enc r) (enc r) ae ae (aQ _) (aQ _)).get;rw[aW,show r+r=2*r by omega]at t;refine Ex.of (n:=N+60) ?_;unfold D7;rcases h with rfl|⟨rfl,rfl⟩
 ·simp only[LD]at t ⊢;generalize LL a=as',LL b=bs,LL (enc r)=rs,LL (enc (2*r))=rs2 at*;simp[EG,f171,t]
 ·simp only[dD,LD,LL,Qc1,Nat.mul_zero]at t ⊢;generalize List.map (fun(x:Nat)=>D.v (Value.int IntKind.u32 (x:Int))) a=as' at*;generalize List.map (fun(x:Nat)=>D.v (Value.int IntKind.u32 (x:Int))) b=bs at*;simp[EG,f171,t]
theorem ae4 (a b:List Nat)(es:List D)(n:Nat)(r i x:Nat)(ha:a[i / 32]?=some x)(hx:x<4294967296)(hi:i<=1000000000)(lr:sz r<=10000000) :
  ∃ t8,Ex E0 EG.r.l.bl.r.l (D7 a b es n (.d (LD (enc r))) i .u .u .u) (.norm,D7 a b es n (.d (LD (enc (r+x / 2 ^ (i % 32) % 2)))) i .u t8 .u):=by
 have hxa:(LL a)[i / 32]?=some (.v (.int .u32 (x:Int))):=by simp[LL,ha]
 have hla:i / 32<(LL a).length:=by simpa[LL] using(bq ha)
 have w1:Int.tdiv (i:Int) 32=((i / 32:Nat):Int):=by rw[Q60 ae];omega
 have w2:ai .i64 ((i / 32:Nat):Int)=((i / 32:Nat):Int):=wrap_i64 ae;have w3:Int.tmod (i:Int) 32=((i % 32:Nat):Int):=by rw[Q61 ae];omega
 have w4:ai .u64 ((i % 32:Nat):Int)=((i % 32:Nat):Int):=wrap_u64 ae;have hs:i % 32<32:=Qu0 _ ae;generalize i % 32=s,i / 32=w at*;have w5:Int.fdiv (x:Int) (2 ^ (min s 32))=((x / 2 ^ s:Nat):Int):=by
  rw[show min s 32=s by omega,Qm0 _ (Int.pow_nonneg ae),Xy2];simp
 have hq:x / 2 ^ s<4294967296:=Xa1 (Xl1 _ _) hx;generalize x / 2 ^ s=y at*;have w6:=and1 hq;have hs0:¬ ((s:Int)<0):=ae;unfold sz at lr;have h2:y % 2=0\/y % 2=1:=ae;rcases h2 with h2|h2
 ·rw[h2]at w6 ⊢;refine⟨dB false,Ex.of (n:=60) ?_⟩;unfold D7;simp only[LD,Q70];generalize LL a=as',LL b=bs,LL (enc r)=rs at*;have i1:=idx hxa;simp[IntKind.bits,EG,f171,hla,hxa,i1,w1,w2,w3,w4,w5,w6,hs0]
 ·rw[h2]at w6 ⊢;obtain⟨N,t⟩:=(Bt (enc r) [1] ae aA (aQ _) (by intro z hz;simp at hz;omega)).get;rw[aW,show val [1]=1 by simp[val]]at t;refine⟨.u,Ex.of (n:=N+60) ?_⟩;unfold D7;simp only[LD,LL,Qe2,Qc1]at hxa hla t ⊢;generalize List.map (fun(x:Nat)=>D.v (Value.int IntKind.u32 (x:Int))) a=as' at*;generalize List.map (fun(x:Nat)=>D.v (Value.int IntKind.u32 (x:Int))) b=bs at*;generalize List.map (fun(x:Nat)=>D.v (Value.int IntKind.u32 (x:Int))) (enc r)=rs at*;generalize List.map (fun(x:Nat)=>D.v (Value.int IntKind.u32 (x:Int))) (enc (r+1))=rs2 at*;have i1:=idx hxa;simp only[Int.natCast_one]at t;simp[IntKind.bits,EG,f171,hla,hxa,i1,w1,w2,w3,w4,w5,w6,hs0,t]
theorem ae5 (a:List Nat)(y:Nat)(Q:List Nat)(r i:Nat)(t8:FV)(hi:i<=1000000000)(lr:sz r<=10000000)(ly:sz y<=10000000)(hQ:bY Q)(hw:i / 32<Q.length)(hbit:bE Q (i / 32) % 2 ^ (i % 32+1)=0) :
  ∃ t9,Ex E0 EG.r.l.bl.r.r (D7 a (enc y) (LL Q) Q.length (.d (LD (enc r))) i .u t8 .u)
   (.norm,D7 a (enc y) (LL (if y<=r then Q.set (i / 32) (bE Q (i / 32)+2 ^ (i % 32)) else Q)) Q.length (.d (LD (enc (if y<=r then r-y else r)))) i .u .u t9):=by
 obtain⟨n1,t1⟩:=(NP r y ae ae).any;have hs:i % 32<32:=Qu0 _ ae;have hL:=dm hQ (i / 32);obtain⟨o1,o2⟩:=or_bit hL hs hbit;have hse:=ahQ hs;have w1:Int.tdiv (i:Int) 32=((i / 32:Nat):Int):=by rw[Q60 ae];omega
 have w2:ai .i64 ((i / 32:Nat):Int)=((i / 32:Nat):Int):=wrap_i64 ae;have w3:Int.tmod (i:Int) 32=((i % 32:Nat):Int):=by rw[Q61 ae];omega
 have w4:ai .u64 ((i % 32:Nat):Int)=((i % 32:Nat):Int):=wrap_u64 ae;have hge:(LL Q)[i / 32]?=some (.v (.int .u32 ((bE Q (i / 32):Nat):Int))):=by simp[LL,bE,Qa1 hw]
 have hset:LL (Q.set (i / 32) (bE Q (i / 32)+2 ^ (i % 32)))=(LL Q).set (i / 32) (.v (.int .u32 ((bE Q (i / 32)+2 ^ (i % 32):Nat):Int))):=by simp[LL,Q62]
 have hlen:(LL Q).length=Q.length:=by simp[LL]
 by_cases RQ:y<=r
 ·have hc:(0:Int)<=dR r y:=by unfold dR;rw[if_neg ae];split<;>omega
  unfold sz at lr ly;obtain⟨n2,t2⟩:=(EF (enc r) (enc y) ae (bI RQ) (aQ _) (aQ _) (by rw[aW,aW];exact RQ)).any;rw[aW,aW]at t2;replace t1:=t1 (n1+n2) ae;replace t2:=t2 (n1+n2) ae;generalize n1+n2=N at*;rw[if_pos RQ,if_pos RQ,hset];refine⟨.u,Ex.of (n:=N+60) ?_⟩;unfold D7;generalize bE Q (i / 32)+2 ^ (i % 32)=v at*;generalize 2 ^ (i % 32)=p at*;have hs0:¬ (((i % 32:Nat):Int)<0):=ae;generalize i % 32=s,bE Q (i / 32)=q0 at*;generalize i / 32=w,dR r y=cc at*;simp only[LD]at t1 t2 ⊢;generalize LL a=as',LL Q=es,LL (enc r)=rs,LL (enc y)=ys,LL (enc (r-y))=ms at*;have i1:=idx hge;generalize Q.length=l at*;simp[IntKind.bits,EG,f171,hlen,hw,hge,i1,t1,t2,hc,w1,w2,w3,w4,o1,hse,hs0]
 ·have hc:dR r y=-1:=by unfold dR;rw[if_pos ae]
  rw[hc]at t1;replace t1:=t1 n1 ae;rw[if_neg RQ,if_neg RQ];refine⟨dB false,Ex.of (n:=n1+60) ?_⟩;unfold D7;simp only[LD]at t1 ⊢;generalize LL a=as',LL Q=es,LL (enc r)=rs,LL (enc y)=ys at*;simp[EG,f171,t1]
theorem wo (w:Nat):(2:Nat) ^ (32*w)=4294967296 ^ w:=by rw[X31]
theorem IG (x j:Nat):x / 4294967296 ^ (j / 32) % 4294967296 / 2 ^ (j % 32) % 2=x / 2 ^ j % 2:=by
 have hj:j=32*(j / 32)+j % 32:=ae;have hs:j % 32<32:=Qu0 _ ae;have e:x / 2 ^ j=x / 4294967296 ^ (j / 32) / 2 ^ (j % 32):=by
  conv=>lhs;rw[hj,Qx0,wo,<-Qy2]
 rw[e];generalize x / 4294967296 ^ (j / 32)=z;generalize j % 32=s at*;have hp:0<2 ^ s:=Qq2 ae;have e2:4294967296=2 ^ s*(2*2 ^ (31-s)):=by
  rw[<-Q52,Ql1 (2 ^ s) 2,<-Nat.pow_succ',<-Qx0,show s+1+(31-s)=32 by omega]
 have e3:z / 2 ^ s=z % 4294967296 / 2 ^ s+2*(2 ^ (31-s)*(z / 4294967296)):=by
  conv=>lhs;rw[<-Nat.mod_add_div z 4294967296]
  have:4294967296*(z / 4294967296)=2 ^ s*(2*(2 ^ (31-s)*(z / 4294967296))):=by
   conv=>lhs;lhs;rw[e2]
   rw[Q52,Q52]
  rw[this,X02 _ _ hp]
 omega
theorem EH {Q:List Nat}(hQ:bY Q){q j:Nat}(hv:val Q=q*2 ^ (j+1)):bE Q (j / 32) % 2 ^ (j % 32+1)=0:=by
 have hs:j % 32<32:=Qu0 _ ae;have hj:j+1=32*(j / 32)+(j % 32+1):=ae;rw[Yn hQ,hv];have e:q*2 ^ (j+1)=4294967296 ^ (j / 32)*(q*2 ^ (j % 32+1)):=by
  conv=>lhs;rw[hj,Qx0,wo]
  generalize 4294967296 ^ (j / 32)=A;generalize 2 ^ (j % 32+1)=C;grind
 rw[e,Nat.mul_div_cancel_left _ (Qq2 ae)];have hd:2 ^ (j % 32+1) ∣ 4294967296:=by
  have:(4294967296:Nat)=2 ^ 32:=by rfl
  rw[this];exact Nat.pow_dvd_pow 2 ae
 rw[Nat.mod_mod_of_dvd _ hd,Nat.mul_mod_left]
theorem Yo {H y b:Nat}(hy:0<y)(hb:b<2) :
  (2*H+b) / y=(if y<=2*(H % y)+b then 2*(H / y)+1 else 2*(H / y))/\(2*H+b) % y=if y<=2*(H % y)+b then 2*(H % y)+b-y else 2*(H % y)+b:=by
 have h1:=Xr0 H y;have h2:=Qu0 H hy;generalize H % y=r,H / y=q at*;have e:2*H+b=y*(2*q)+(2*r+b):=by
  rw[<-h1];grind
 by_cases h:y<=2*r+b
 ·rw[if_pos h,if_pos h];have e2:2*H+b=y*(2*q+1)+(2*r+b-y):=by rw[e,Xb0,Xw2];omega
  have hlt:2*r+b-y<y:=ae;rw[e2,Xl0 hy,Xa0 hlt,X01,Qv2 hlt];exact⟨rfl,rfl⟩
 ·rw[if_neg h,if_neg h];have hlt:2*r+b<y:=ae;rw[e,Xl0 hy,Xa0 hlt,X01,Qv2 hlt];exact⟨rfl,rfl⟩
theorem Yp (x y:Nat)(hy:0<y)(lx:sz x<=1000000)(ly:sz y<=1000000) :
  ∃ r,Ex E0 (.loop EG) (D7 (enc x) (enc y) (LL (row0 [] (sz x))) (sz x) (.d (.n 1)) (((32*sz x:Nat):Int)-1) .u .u .u) r /\
   ∃ Q rv,bY Q/\Q.length=sz x/\val Q=x / y/\okr rv (x % y)/\r=(.exit 0,D7 (enc x) (enc y) (LL Q) (sz x) rv (-1) (dB false) .u .u):=by
 refine Ex.inv (S:=fun t:Nat × List Nat × FV=>D7 (enc x) (enc y) (LL t.2.1) (sz x) t.2.2 ((t.1:Int)-1) .u .u .u) (fun t=>t.1)
  (fun t=>t.1<=32*sz x/\bY t.2.1/\t.2.1.length=sz x/\val t.2.1=x / 2 ^ t.1 / y*2 ^ t.1/\okr t.2.2 (x / 2 ^ t.1 % y)) _ ?_ (32*sz x,row0 [] (sz x),.d (.n 1)) ?_
 ·rintro⟨j,Q,rv⟩ ⟨h1,h2,h3,h4,h5⟩;simp only at h1 h2 h3 h4 h5;cases j with
  | zero =>
   simp only[Nat.pow_zero,Xk0,Xw2]at h4 h5;refine .inr ⟨_,?_,aA,Q,rv,h2,h3,h4,h5,rfl⟩;have:=abT (enc x) (enc y) (LL Q) (sz x) rv;simpa using Ex.of this
  | succ j =>
   have hw:j / 32<sz x:=ae;have hr2:x / 2 ^ (j+1) % y<y:=Qu0 _ hy;have hsr:sz (x / 2 ^ (j+1) % y)<=1000000:=Qc2 (oZ ae) ly;have p1:=ae3 (enc x) (enc y) (LL Q) (sz x) rv _ (j:Int) h5 ae;have akD:sz (2*(x / 2 ^ (j+1) % y))<=1000002:=by
    have:=Lc (x / 2 ^ (j+1) % y) (x / 2 ^ (j+1) % y);rw[show x / 2 ^ (j+1) % y+x / 2 ^ (j+1) % y=2*(x / 2 ^ (j+1) % y) by omega]at this;omega
   have hax:(enc x)[j / 32]?=some (bE (enc x) (j / 32)):=by
    have:j / 32<(enc x).length:=hw;simp[bE,Qa1 this]
   obtain⟨t8,p2⟩:=ae4 (enc x) (enc y) (LL Q) (sz x) (2*(x / 2 ^ (j+1) % y)) j _ hax (dm (aQ x) _) ae ae;rw[vW,IG]at p2;have hb:x / 2 ^ j % 2<2:=Qu0 _ ae;have hH:x / 2 ^ j=2*(x / 2 ^ (j+1))+x / 2 ^ j % 2:=by
    rw[Qm1,<-Qy2];omega
   obtain⟨d1,d2⟩:=Yo (H:=x / 2 ^ (j+1)) hy hb;rw[<-hH]at d1 d2;have akE:sz (2*(x / 2 ^ (j+1) % y)+x / 2 ^ j % 2)<=1000004:=by
    have:=Lc (2*(x / 2 ^ (j+1) % y)) (x / 2 ^ j % 2);have h1s:sz (x / 2 ^ j % 2)<=1:=uB ae;omega
   obtain⟨t9,p3⟩:=ae5 (enc x) y Q (2*(x / 2 ^ (j+1) % y)+x / 2 ^ j % 2) j t8 ae ae ae h2 ae (EH h2 h4);rw[<-d2,h3]at p3;have w3:ai .i64 ((j:Int)-1)=(j:Int)-1:=wrap_i64 ae;have w4:(0:Int)<=(j:Int):=ae;have hlim:=dm h2 (j / 32);refine .inl ⟨(j,if y<=2*(x / 2 ^ (j+1) % y)+x / 2 ^ j % 2 then Q.set (j / 32) (bE Q (j / 32)+2 ^ (j % 32)) else Q,.d (LD (enc (x / 2 ^ j % y)))),?_,aA,by simp only;omega,?_,?_,?_,.inl rfl⟩
   ·simp only;rw[show(((j+1:Nat):Int)-1)=(j:Int) by omega];generalize (if y<=2*(x / 2 ^ (j+1) % y)+x / 2 ^ j % 2 then Q.set (j / 32) (bE Q (j / 32)+2 ^ (j % 32)) else Q)=Q',x / 2 ^ j % y=r' at*;show Ex E0 (.seq EG.l (.seq (.block 1 (.seq EG.r.l.bl.l (.seq EG.r.l.bl.r.l EG.r.l.bl.r.r))) EG.r.r)) _ _;refine Ex.seq (Ex.of (n:=40) ?_) (Ex.seq (Ex.gp (p1.seq (p2.seq p3))) (Ex.of (n:=40) ?_))
    ·unfold D7;simp only[LD];generalize LL (enc x)=as' at*;generalize LL (enc y)=bs at*;generalize LL Q=es at*;simp[EG,f171,w4]
    ·unfold D7;simp only[LD];generalize LL (enc x)=as' at*;generalize LL (enc y)=bs at*;generalize LL Q'=es at*;generalize LL (enc r')=rs at*;simp[EG,f171,w3]
   ·simp only;split
    ·exact F_ h2 (or_bit hlim (Qu0 _ ae) (EH h2 h4)).2
    ·exact h2
   ·simp only;split
    ·simp[h3]
    ·exact h3
   ·simp only;rw[d1];split
    ·have hvs:=Ai Q (j / 32) (bE Q (j / 32)+2 ^ (j % 32)) ae;have e2:4294967296 ^ (j / 32)*2 ^ (j % 32)=2 ^ j:=by
      rw[<-wo,<-Qx0,show 32*(j / 32)+j % 32=j by omega]
     rw[Xb0,e2,h4,Qm1]at hvs;have e3:(2*(x / (2 ^ j*2) / y)+1)*2 ^ j=x / (2 ^ j*2) / y*(2 ^ j*2)+2 ^ j:=by grind
     rw[Qm1,e3];omega
    ·rw[h4,Qm1];grind
 ·have hx0:x / 2 ^ (32*sz x)=0:=by rw[wo];exact Xa0 (Iu x)
  refine⟨Qd1 _,?_,by simp[row0],?_,.inr ⟨?_,rfl⟩⟩
  ·intro z hz;simp[row0]at hz;omega
  ·have:∀ m,val (List.replicate m 0)=0:=by
    intro m
    induction m with
    | zero=>rfl
    | succ m ih=>rw[Xg0,val,ih]
   simp only[row0,Qw0,this,hx0];simp
  ·simp only[hx0,Nat.zero_mod]
theorem yj (x y:Nat)(hy:0<y)(lx:sz x<=1000000)(ly:sz y<=1000000) :
  Ca E0 171 [.d (LD (enc x)),.d (LD (enc y))] (.d (.t [LD (enc (x / y)),LD (enc (x % y))]),none):=by
 obtain⟨r,hloop,Q,rv,hQ,hql,hv,hr,rfl⟩:=Yp x y hy lx ly;obtain⟨n0,hc⟩:=(v_ Q ae).get;rw[df hQ,hv]at hc;have uN:(LL (enc x)).length=sz x:=by simp[LL,sz]
 have hlo:(LL Q).length=sz x:=by simp[LL,hql]
 have htk:(LL Q).take (sz x)=LL Q:=Qe1 ae;have hz:=vV (sz x);generalize enc (x / y)=res at*;refine Ca.body (o:=.ret) (st1:=(st0 (.u::.u::.d (LD res)::rv::qO) [.gK 0 1 (LL Q)])) rfl (aM 171 f171:E0.fn _=_) rfl ?_ (by intro id h;cases h) ?_
 ·show Ex E0 (.seq f171.body.l (.seq f171.body.r.l (.seq f171.body.r.r.l (.seq (.seq f171.body.r.r.r.l.l (.block 0 (.loop EG))) f171.body.r.r.r.r)))) _ _;refine Ex.seq (st1:=(st0 (.d (LD (enc x))::.d (LD (enc y))::zZ) [])) (Ex.of (n:=40) ?_)
   (Ex.seq (st1:=(st0 (.d (LD (enc x))::.d (LD (enc y))::.u::.u::.ls (.loc 0) 0 1 0 (sz x)::lI) [.row 0 1 (LL (row0 [] (sz x)))])) (Ex.of (n:=40) ?_)
   (Ex.seq (st1:=(st0 (.d (LD (enc x))::.d (LD (enc y))::.u::.u::.ls (.loc 0) 0 1 0 (sz x)::.d (.n 1)::vR) [.row 0 1 (LL (row0 [] (sz x)))])) (Ex.of (n:=40) ?_)
   (Ex.seq (Ex.seq (Ex.of (n:=40) ?_) hloop.block) (Ex.of (n:=n0+40) ?_))))
  ·simp[f171]
  ·have hm1:((sz x:Nat):Int)*4<=1099511627776:=ae;have hm2:((sz x:Nat):Int)<=1099511627776:=ae;rw[hz];simp only[LD];generalize LL (enc x)=as',LL (enc y)=bs,sz x=m at*;simp[f171,uN,hm1,hm2,most]
  ·simp[f171]
  ·have w1:ai .i64 (32*((sz x:Nat):Int))=((32*sz x:Nat):Int):=by rw[wrap_i64 ae];omega
   have w2:ai .i64 (((32*sz x:Nat):Int)-1)=((32*sz x:Nat):Int)-1:=wrap_i64 ae;unfold D7;simp only[LD];generalize LL (enc x)=as',LL (enc y)=bs,LL (row0 [] (sz x))=es,32*sz x=m32 at*;generalize sz x=m at*;simp[f171,uN,w1,w2]
  ·unfold D7;clear hloop;simp only[LD]at hc ⊢;generalize LL Q=es,sz x=m at*;simp[ah.view,f171,hlo,htk,hc]
 ·rcases hr with rfl|⟨h0,rfl⟩
  ·simp[f171,LD,uz]
  ·rw[h0];simp[f171,LD,LL,dD,uz]
def wgB:aF:=f170.body.r.l.bl.lp
theorem Tk (a:Nat):Ex E0 wgB (DY a 0 .u) (.exit 0,DY a 0 (dB false)):=by
 refine Ex.of (n:=40) ?_;unfold DY;simp only[dD,LD];generalize LL (enc a)=as';simp[wgB,f170,LL]
theorem Lh (a b:Nat)(la:sz a<=1000000)(lb:sz b<=1000000)(hb0:0<b):Ex E0 wgB (DY a b .u) (.norm,DY b (a % b) .u):=by
 obtain⟨n0,ho⟩:=(yj a b hb0 la lb).get;refine Ex.of (n:=n0+60) ?_;unfold DY;have hlb:∃ m,(LL (enc b)).length=m+1:=by
  have:0<(enc b).length:=Xg1.2 (by intro e;rw[d_]at e;omega);exact⟨(enc b).length-1,by simp[LL];omega⟩
 obtain⟨m,hlb⟩:=hlb;have hm:0<(m:Int)+1:=ae;simp only[LD]at ho ⊢;generalize LL (enc a)=as',LL (enc b)=bs,LL (enc (a / b))=qs,LL (enc (a % b))=rs at*;simp[wgB,f170,hlb,ho,hm]
theorem Pz (a b:Nat)(la:sz a<=1000000)(lb:sz b<=1000000):Ex E0 (.loop wgB) (DY a b .u) (.exit 0,DY (Nat.gcd a b) 0 (dB false)):=by
 induction b using Nat.strongRecOn generalizing a with
 | ind b ih =>
  rcases Qq0 b with rfl|h0
  ·rw[Nat.gcd_zero_right];exact Ex.out (Tk a) aA
  ·have hm:=Qu0 a h0;have:=ih (a % b) hm b lb (Qc2 (oZ ae) lb);have hg:Nat.gcd a b=Nat.gcd b (a % b):=by rw[Xs1 a b,Nat.gcd_rec b a,Xs1]
   rw[hg];exact Ex.next (Lh a b la lb h0) this
theorem Bu (a b:Nat)(la:sz a<=1000000)(lb:sz b<=1000000):Ca E0 170 [.d (LD (enc a)),.d (LD (enc b))] (.d (LD (enc (Nat.gcd a b))),none):=by
 have hl:=Pz a b la lb;generalize Nat.gcd a b=g at*;refine Ca.body (o:=.ret) (st1:=(st0 [.u,.u,.d (LD (enc g)),.u,.u] [])) rfl (aM 170 f170:E0.fn _=_) rfl ?_ (by intro id h;cases h) ?_
 ·show Ex E0 (.seq f170.body.l (.seq (.block 0 (.loop wgB)) f170.body.r.r)) _ _;refine Ex.seq (st1:=DY a b .u) (Ex.of (n:=40) ?_) (Ex.seq hl.block (Ex.of (n:=40) ?_))
  ·unfold DY;simp[f170]
  ·unfold DY;simp[f170]
 ·simp[f170,LD]
theorem last_cases (l:List Nat):l=[]\/∃ (m x:Nat),l.length=m+1/\(LL l)[m]?=some (.v (.int .u32 (x:Int)))/\((x:Int)==0) = !uQ l:=by
 rcases Q91 l with h|⟨b,x,h⟩
 ·exact .inl h
 ·refine .inr ⟨b.length,x,by simp[h],by simp[LL,h],?_⟩;rw[h,Q22];unfold uQ
  by_cases hx:x=0
  ·subst hx;rw[sQ];have h2:=qZ b;have h3:¬ trim b=b++[0]:=by
    intro e;rw[e]at h2;simp only[Qb0,Qg0,Qr1]at h2;omega
   simp[h3]
  ·rw[sP b x hx];have:((x:Int)==0)=false:=by simp;omega
   simp[this]
theorem Ao {g:Nat}:enc g=[1]↔g=1:=by
 constructor
 ·intro h;have:=aW g;rw[h]at this;simp[val]at this;omega
 ·rintro rfl;exact jw ae ae
theorem PE (s:Bool)(a b:List Nat)(hb:bY b) :
  dS s a b=(if !uQ a || !uQ b||decide (b=[1]) then false else if a=[] then !s&&decide (b=[]) else decide (b=[])||decide (Nat.gcd (val a) (val b)=1)):=by
 unfold dS;cases uQ a
 ·simp
 ·cases h:uQ b
  ·simp
  ·simp only[Qr2,Xi2,Xc2]
   by_cases h1:b=[1]
   ·subst h1;simp[val]
   ·have hv:b≠[]->val b≠1:=by
     intro _ hv;have:=(nG hb).1 h;rw[hv]at this;exact h1 (this.trans (Ao.2 rfl))
    simp only[h1,decide_false,Qh1,if_false]
    by_cases h0:b=[]
    ·subst h0;simp
    ·simp only[h0,decide_false,Bool.and_false,Xc2,hv h0,ne_eq,not_false_eq_true,decide_true,Qr2]
theorem sZ (s:Bool)(a b:List Nat)(la:a.length<=1000000)(lb:b.length<=1000000)(ha:bY a)(hb:bY b):Ca E0 97 [.d (raw s a b)] (dB (dS s a b),none):=by
 rw[PE s a b hb];have h1:=fun m=>Br m b
 -- the two last limbs
 have ca:=last_cases a;have cb:=last_cases b;have hla:(LL a).length=a.length:=by simp[LL]
 have hlb:(LL b).length=b.length:=by simp[LL]
 by_cases hbad:(!uQ a || !uQ b||decide (b=[1]))=true
 ·rw[if_pos hbad];refine Ca.bP (n:=90) ?_;rw[av rfl (k97:E0.fn _=_) rfl];rcases ca with rfl|⟨m,x,hm,hx,hx0⟩
  ·have ok0:uQ []=true:=by simp[uQ,trim]
   rw[ok0]at hbad;rcases cb with rfl|⟨m2,y,hm2,hy,hy0⟩
   ·rw[ok0]at hbad;simp at hbad
   ·have p2:(0:Int)<(m2:Int)+1:=ae;have w2:ai .i64 (m2:Int)=(m2:Int):=wrap_i64 ae;rw[hm2]at hlb;cases HZ:uQ b
    ·rw[HZ]at hy0;simp only[raw,LD]at h1 ⊢;generalize LL b=bs at*;have i2:=idx hy;simp only[LL,Qc1];simp[f97,hlb,hy,i2,hy0,p2,w2]
    ·rw[HZ]at hy0 hbad;have h11:decide (b=[1])=true:=by simpa using hbad
     rw[h11]at h1;simp only[raw,LD]at h1 ⊢;generalize LL b=bs at*;have i2:=idx hy;simp only[LL,Qc1];simp[f97,hlb,hy,i2,hy0,p2,w2,h1]
  ·have p1:(0:Int)<(m:Int)+1:=ae;have w1:ai .i64 (m:Int)=(m:Int):=wrap_i64 ae;rw[hm]at hla;cases hoa:uQ a
   ·rw[hoa]at hx0;simp only[raw,LD]at h1 ⊢;generalize LL a=as',LL b=bs at*;have i1:=idx hx;simp[f97,hla,hx,i1,hx0,p1,w1]
   ·rw[hoa]at hx0 hbad;rcases cb with rfl|⟨m2,y,hm2,hy,hy0⟩
    ·have ok0:uQ []=true:=by simp[uQ,trim]
     rw[ok0]at hbad;simp at hbad
    ·have p2:(0:Int)<(m2:Int)+1:=ae;have w2:ai .i64 (m2:Int)=(m2:Int):=wrap_i64 ae;rw[hm2]at hlb;cases HZ:uQ b
     ·rw[HZ]at hy0;simp only[raw,LD]at h1 ⊢;generalize LL a=as',LL b=bs at*;have i1:=idx hx;have i2:=idx hy;simp[f97,hla,hx,i1,hx0,p1,w1,hlb,hy,i2,hy0,p2,w2]
     ·rw[HZ]at hy0 hbad;have h11:decide (b=[1])=true:=by simpa using hbad
      rw[h11]at h1;simp only[raw,LD]at h1 ⊢;generalize LL a=as',LL b=bs at*;have i1:=idx hx;have i2:=idx hy;simp[f97,hla,hx,i1,hx0,p1,w1,hlb,hy,i2,hy0,p2,w2,h1]
 ·rw[if_neg hbad];simp only[Xl2,Qs2,decide_eq_true_eq,not_or,Bool.not_eq_false]at hbad;obtain⟨⟨hoa,HZ⟩,hb1⟩:=hbad;have h10:decide (b=[1])=false:=by simpa using hb1
  rw[h10]at h1;rcases ca with rfl|⟨m,x,hm,hx,hx0⟩
  ·rw[if_pos rfl];refine Ca.bP (n:=90) ?_;rw[av rfl (k97:E0.fn _=_) rfl];rcases cb with rfl|⟨m2,y,hm2,hy,hy0⟩
   ·simp only[raw,LD,LL,Qc1]at h1 ⊢;cases s<;>simp[f97,h1]
   ·have p2:(0:Int)<(m2:Int)+1:=ae;have w2:ai .i64 (m2:Int)=(m2:Int):=wrap_i64 ae;have hbn:decide (b=[])=false:=by
     have:¬ b=[]:=by intro e;rw[e]at hm2;simp at hm2
     simpa using this
    have hne:(((m2:Int)+1)==0)=false:=by simp;omega
    rw[hm2]at hlb;rw[HZ]at hy0;rw[hbn];simp only[raw,LD]at h1 ⊢;generalize LL b=bs at*;have i2:=idx hy;simp only[LL,Qc1];cases s<;>simp[f97,hlb,hy,i2,hy0,p2,w2,h1,hne]
  ·have p1:(0:Int)<(m:Int)+1:=ae;have w1:ai .i64 (m:Int)=(m:Int):=wrap_i64 ae;have han:¬ a=[]:=by intro e;rw[e]at hm;simp at hm
   have hne:(((m:Int)+1)==0)=false:=by simp;omega
   rw[if_neg han];rw[hoa]at hx0;rw[hm]at hla;rcases cb with rfl|⟨m2,y,hm2,hy,hy0⟩
   ·refine Ca.bP (n:=90) ?_;rw[av rfl (k97:E0.fn _=_) rfl];simp only[raw,LD]at h1 ⊢;generalize LL a=as' at*;have i1:=idx hx;simp only[LL,Qc1]at h1 ⊢;simp[f97,hla,hx,i1,hx0,p1,w1,h1,hne]
   ·have p2:(0:Int)<(m2:Int)+1:=ae;have w2:ai .i64 (m2:Int)=(m2:Int):=wrap_i64 ae;have hbn:¬ b=[]:=by intro e;rw[e]at hm2;simp at hm2
    have hne2:(((m2:Int)+1)==0)=false:=by simp;omega
    have hdb:decide (b=[])=false:=by simpa using hbn
    have ea:=(nG ha).1 hoa;have eb:=(nG hb).1 HZ;obtain⟨N,hg⟩:=(Bu (val a) (val b) (by unfold sz;rw[<-ea];omega) (by unfold sz;rw[<-eb];omega)).get;rw[<-ea,<-eb]at hg;have hg1:=fun m=>Br m (enc (Nat.gcd (val a) (val b)))
    have e1:decide (enc (Nat.gcd (val a) (val b))=[1])=decide (Nat.gcd (val a) (val b)=1):=by simp[Ao]
    rw[e1]at hg1;refine Ca.bP (n:=N+90) ?_;rw[av rfl (k97:E0.fn _=_) rfl];rw[hdb,Xc2];rw[hm2]at hlb;rw[HZ]at hy0;generalize decide (Nat.gcd (val a) (val b)=1)=res at*;simp only[raw,LD]at h1 hg hg1 ⊢;generalize LL (enc (Nat.gcd (val a) (val b)))=gs,LL a=as',LL b=bs at*;have i1:=idx hx;have i2:=idx hy;simp[f97,hla,hx,i1,hx0,p1,w1,hlb,hy,i2,hy0,p2,w2,h1,hne,hne2,hg,hg1]
def cz (s:Bool)(a b:List Nat):Rat:=vX s (val a) (if b=[] then 1 else val b)
theorem tq {s:Bool}{a b:List Nat}(ha:bY a)(hb:bY b)(h:dS s a b=true):raw s a b=qD (cz s a b):=by
 unfold dS at h;simp only[Qb1]at h;obtain⟨⟨hoa,HZ⟩,hc⟩:=h;have ea:=(nG ha).1 hoa;have eb:=(nG hb).1 HZ;unfold qD qn qd cz
 by_cases hna:a=[]
 ·subst hna;rw[if_pos rfl]at hc;simp only[Qb1,Qs2,decide_eq_true_eq]at hc;obtain⟨hs,hb0⟩:=hc;subst hs hb0;rw[if_pos rfl,Bo ae,sV ae,sU ae];simp[val,raw,dD]
 ·rw[if_neg hna]at hc;have hva:val a≠0:=by
   intro e;rw[e,dD]at ea;exact hna ea
  by_cases hnb:b=[]
  ·subst hnb;rw[if_pos rfl,Bo ae,sV ae,sU ae,Nat.gcd_one_right,Xk0,Xk0,if_neg hva,if_pos rfl,<-ea]
  ·have hvb:val b≠0:=by
    intro e;rw[e,dD]at eb;exact hnb eb
   rw[if_neg hnb];simp only[hnb,decide_false,Xc2,Qb1,decide_eq_true_eq]at hc;rw[Bo ae,sV ae,sU ae,hc.2,Xk0,Xk0,if_neg hva,if_neg hc.1,<-ea,<-eb]
theorem q9 (x:Rat):cz (qs x) (qn x) (qd x)=x:=by
 unfold cz;have h1:val (qn x)=x.num.natAbs:=aW _;have h2:(if qd x=[] then 1 else val (qd x))=x.den:=by
  unfold qd;have hd:=x.den_nz
  by_cases h:x.den=1
  ·rw[if_pos h,if_pos rfl,h]
  ·rw[if_neg h,if_neg (by rw[d_];exact hd),aW]
 rw[h1,h2,Iy]
theorem wy {s:Bool}{a b:List Nat}(ha:bY a)(hb:bY b)(k:Nat)(la:a.length<=k)(lb:b.length<=k)(hk:1<=k)(h:dS s a b=true):qz (cz s a b)<=k:=by
 unfold cz;have hd:0<(if b=[] then 1 else val b):=by
  split
  ·omega
  ·rename_i hnb;unfold dS at h;simp only[Qb1]at h;have eb:=(nG hb).1 h.1.2;rcases Qq0 (val b) with e|e
   ·rw[e,dD]at eb;exact absurd eb hnb
   ·exact e
 refine Qc2 (Bp hd) ?_;have h1:sz (val a)<=k:=by
  refine Qc2 (uB (k:=a.length) (nT ha)) la
 have h2:sz (if b=[] then 1 else val b)<=k:=by
  split
  ·rw[Bj];exact hk
  ·exact Qc2 (uB (k:=b.length) (nT hb)) lb
 omega
def Tm (s:Bool)(a b:List Nat):D:=if dS s a b then raw s a b else raw false [] []
theorem Tn (s:Bool)(a b:List Nat)(la:a.length<=1000000)(lb:b.length<=1000000)(ha:bY a)(hb:bY b):Ca E0 85 [.d (raw s a b)] (.d (Tm s a b),none):=by
 obtain⟨N,t⟩:=(sZ s a b la lb ha hb).get;unfold Tm;refine Ca.bP (n:=N+60) ?_;rw[av rfl (aM 85 f85:E0.fn _=_) rfl];cases hv:dS s a b
 ·rw[hv]at t;rw[if_neg aA];simp only[raw,LD]at t ⊢;generalize LL a=as',LL b=bs at*;simp only[LL,Qc1];simp[f85,t]
 ·rw[hv]at t;rw[if_pos rfl];have l1:(LL a).length<=1000000:=by simpa[LL] using la
  have l2:(LL b).length<=1000000:=by simpa[LL] using lb
  simp only[raw,LD]at t ⊢;generalize LL a=as',LL b=bs at*;cases as' with
  | nil =>
   cases bs with
   | nil=>simp[f85,t,ah.view,most]
   | cons y ys =>
    simp only[Qg0]at l2;have m1:(ys.length+1)*4<=1099511627776:=ae;have m2:ys.length+1<=1099511627776:=ae;simp[f85,t,ah.view,most,m1,m2]
  | cons x xs =>
   simp only[Qg0]at l1;have m3:(xs.length+1)*4<=1099511627776:=ae;have m4:xs.length+1<=1099511627776:=ae;cases bs with
   | nil=>simp[f85,t,ah.view,most,m3,m4]
   | cons y ys =>
    simp only[Qg0]at l2;have m1:(ys.length+1)*4<=1099511627776:=ae;have m2:ys.length+1<=1099511627776:=ae;simp[f85,t,ah.view,most,m1,m2,m3,m4]
theorem iI (x:Rat)(hx:qz x<=1000000):Ca E0 85 [.d (qD x)] (.d (qD x),none):=by
 have h:=Tn (qs x) (qn x) (qd x) (Qc2 (S_ x) hx) (Qc2 (Ta x) hx) (Gi x) (Gj x);unfold Tm at h;rw[sS,if_pos rfl]at h;exact h
theorem Ap (n:Nat)(x:Rat):CL E0 (n+40) 88 [.d (qD x)] []=some (.d (LD (enc x.den)),none):=by
 rw[av rfl (aM 88 f88:E0.fn _=_) rfl];have hd:=x.den_nz;unfold qD qd
 by_cases h:x.den=1
 ·rw[if_pos h,h,Bi];simp only[raw,LD];generalize LL (qn x)=ns,qs x=s at*;simp only[LL,Qc1];simp[f88,ah.view]
 ·rw[if_neg h];have hne:¬ LL (enc x.den)=[]:=by simp[LL,d_,hd]
  simp only[raw,LD];generalize LL (qn x)=ns,LL (enc x.den)=ds,qs x=s at*;simp[f88,hne]
theorem Bv {s:Bool}{n d:Nat}(ln:sz n<=1000000)(ld:sz d<=1000000)(hd0:0<d):Ca E0 89 [dB s,.d (LD (enc n)),.d (LD (enc d))] (.d (qD (vX s n d)),none):=by
 unfold qD qn qd;rw[Bo hd0,sV hd0,sU hd0];rcases Qq0 n with rfl|hn0
 ·have e2:d / Nat.gcd 0 d=1:=by rw[Nat.gcd_zero_left];exact Nat.div_self hd0
  rw[e2];refine Ca.bP (n:=60) ?_;rw[av rfl (k89:E0.fn _=_) rfl];simp only[raw,Nat.zero_div,dD,if_true,LD,LL,Qc1];generalize List.map (fun(x:Nat)=>D.v (Value.int IntKind.u32 (x:Int))) (enc d)=ds at*;simp[f89]
 ·rw[if_neg ae];have hg:0<Nat.gcd n d:=Xt0 n hd0;have lg:sz (Nat.gcd n d)<=1000000:=Qc2 (oZ (Xy1 hd0 (Xv1 n d))) ld;obtain⟨Kq,_,c1,c3,c4⟩:=((Bu n d ln ld).j ((yj n (Nat.gcd n d) hg ln lg).j ((yj d (Nat.gcd n d) hg ld lg).any))).at 0;generalize Kq=N at*;have hln:¬ LL (enc n)=[]:=by
   have:¬ n=0:=ae;simp[LL,d_,this]
  have o1:=fun m=>Br m (enc (d / Nat.gcd n d))
  have e1:decide (enc (d / Nat.gcd n d)=[1])=decide (d / Nat.gcd n d=1):=by simp[Ao]
  rw[e1]at o1;generalize Nat.gcd n d=g at*;refine Ca.bP (n:=N+80) ?_;rw[av rfl (k89:E0.fn _=_) rfl]
  by_cases hd1:d / g=1
  ·rw[if_pos hd1];rw[decide_eq_true hd1]at o1;generalize d / g=dd,n / g=nn,n % g=m1,d % g=m2 at*;simp only[raw,LD]at c1 c3 c4 o1 ⊢;generalize LL (enc n)=ns,LL (enc d)=ds,LL (enc g)=gs at*;generalize LL (enc nn)=q1,LL (enc dd)=q2,LL (enc m1)=x1,LL (enc m2)=x2 at*;simp only[LL,Qc1];simp[f89,o1,c1,c3,c4,hln]
  ·rw[if_neg hd1];rw[decide_eq_false hd1]at o1;generalize d / g=dd,n / g=nn,n % g=m1,d % g=m2 at*;simp only[raw,LD]at c1 c3 c4 o1 ⊢;generalize LL (enc n)=ns,LL (enc d)=ds,LL (enc g)=gs at*;generalize LL (enc nn)=q1,LL (enc dd)=q2,LL (enc m1)=x1,LL (enc m2)=x2 at*;simp[f89,o1,c1,c3,c4,hln]
theorem mJ (x:Rat)(hx:qz x<=1000000):Ca E0 98 [.d (qD x)] (dI x.num.sign,none):=by
 obtain⟨N,t⟩:=(iI x hx).get;refine Ca.bP (n:=N+60) ?_;rw[av rfl (aM 98 f98:E0.fn _=_) rfl];simp only[qD,raw,LD]at*;have hs:(LL (qn x)=[]/\qs x=false/\x.num.sign=0)\/(LL (qn x)≠[]/\qs x=true/\x.num.sign=-1)\/((∃ m,(LL (qn x)).length=m+1)/\qs x=false/\x.num.sign=1):=by
  have hnil:LL (qn x)=[]↔x.num.natAbs=0:=by simp only[LL,Xq0];exact d_
  rw[Ne,hnil];rcases Q81 x.num 0 with h|h|h
  ·exact .inr (.inl ⟨ae,decide_eq_true h,Q00 h⟩)
  ·exact .inl ⟨ae,decide_eq_false ae,by rw[h];rfl⟩
  ·refine .inr (.inr ⟨?_,decide_eq_false ae,Q80 h⟩);cases hl:LL (qn x) with
   | nil=>rw[hnil]at hl;omega
   | cons y r=>exact⟨r.length,rfl⟩
 generalize LL (qn x)=z1,LL (qd x)=z3,qs x=s at*;rcases hs with ⟨a,b,c⟩|⟨a,b,c⟩|⟨⟨m,a⟩,b,c⟩
 ·rw[c];subst a;subst b;simp[f98,t]
 ·rw[c];subst b;simp[f98,t,a]
 ·have hm:(0:Int)<(m:Int)+1:=ae;rw[c];subst b;simp[f98,t,a,hm]
theorem abU (x:Rat):qD (-x)=raw (if x.num.natAbs=0 then false else !qs x) (qn x) (qd x):=by
 unfold qD qn qd qs;rw[Rat.neg_num,Rat.neg_den,Int.natAbs_neg]
 congr 1
 rcases Q81 x.num 0 with h|h|h
 ·rw[if_neg ae,decide_eq_true h,decide_eq_false ae];rfl
 ·rw[if_pos ae,decide_eq_false ae]
 ·rw[if_neg ae,decide_eq_false (show ¬ x.num<0 by omega),decide_eq_true ae];rfl
theorem Yq (x:Rat)(hx:qz x<=1000000):Ca E0 95 [.d (qD x)] (.d (qD (-x)),none):=by
 obtain⟨N,t⟩:=(iI x hx).get;refine Ca.bP (n:=N+60) ?_;rw[av rfl (aM 95 f95:E0.fn _=_) rfl];rw[abU];have hnil:LL (qn x)=[]↔x.num.natAbs=0:=by simp only[LL,Xq0];exact d_
 simp only[qD,raw,LD]at*;generalize LL (qd x)=z3,qs x=s at*;cases hl:LL (qn x) with
 | nil =>
  rw[if_pos (hnil.1 hl)];rw[hl]at t;simp[f95,t]
 | cons y r =>
  have:¬ x.num.natAbs=0:=by rw[<-hnil,hl];simp
  rw[if_neg this];rw[hl]at t;have hm:(0:Int)<(r.length:Int)+1:=ae;simp[f95,t,hm]
theorem mK {a b:Nat}(ha:sz a<=1000000)(hb:sz b<=1000000):Ca E0 87 [.d (LD (enc a)),.d (LD (enc b))] (.d (LD (enc (a*b))),none):=by
 unfold sz at ha hb;have:=Py (enc a) (enc b) ae ae (aQ _) (aQ _);simpa only[aW] using this
theorem PG {a b:Nat}(ha:sz a<=1000000)(hb:sz b<=1000000):Ca E0 90 [.d (LD (enc a)),.d (LD (enc b))] (.d (LD (enc (a+b))),none):=by
 unfold sz at ha hb;have:=Bt (enc a) (enc b) ae ae (aQ _) (aQ _);simpa only[aW] using this
theorem Bw {a b:Nat}(ha:sz a<=1000000)(hb:b<=a):Ca E0 92 [.d (LD (enc a)),.d (LD (enc b))] (.d (LD (enc (a-b))),none):=by
 unfold sz at ha;have:=EF (enc a) (enc b) ae (bI hb) (aQ _) (aQ _) (by simpa only[aW] using hb);simpa only[aW] using this
theorem Gs (x y:Rat)(hx:qz x<=100000)(hy:qz y<=100000):Ca E0 57 [.d (qD x),.d (qD y)] (.d (qD (x*y)),none):=by
 obtain⟨k1,t1⟩:=(iI x ae).any;obtain⟨k2,t2⟩:=(iI y ae).any;have hx1:sz x.num.natAbs<=100000:=Qc2 (Q01 _ _) hx;have hx2:sz x.den<=100000:=Qc2 (Qz2 _ _) hx;have hy1:sz y.num.natAbs<=100000:=Qc2 (Q01 _ _) hy;have hy2:sz y.den<=100000:=Qc2 (Qz2 _ _) hy;have b1:=fC x.num.natAbs y.num.natAbs;have b2:=fC x.den y.den;obtain⟨k3,t3⟩:=(mK (a:=x.num.natAbs) (b:=y.num.natAbs) ae ae).any;obtain⟨k4,t4⟩:=(mK (a:=x.den) (b:=y.den) ae ae).any;obtain⟨k5,t5⟩:=(Bv (s:=qs x != qs y) (n:=x.num.natAbs*y.num.natAbs) (d:=x.den*y.den) ae ae (Xc1 (den_pos x) (den_pos y))).any;rw[NL]at t5;have d1:=fun m=>Ap m x
 have d2:=fun m=>Ap m y
 replace t1:=t1 (k1+k2+k3+k4+k5) ae;replace t2:=t2 (k1+k2+k3+k4+k5) ae;replace t3:=t3 (k1+k2+k3+k4+k5) ae;replace t4:=t4 (k1+k2+k3+k4+k5) ae;replace t5:=t5 (k1+k2+k3+k4+k5) ae;generalize k1+k2+k3+k4+k5=N at*;refine Ca.bP (n:=N+80) ?_;rw[av rfl (aM 57 f57:E0.fn _=_) rfl];have n1:enc x.num.natAbs=qn x:=rfl;have n2:enc y.num.natAbs=qn y:=rfl;rw[n1,n2]at t3;generalize x.num.natAbs*y.num.natAbs=n,x.den*y.den=d at*;simp only[qD,raw,LD]at*;generalize qs x=s1,qs y=s2,LL (enc x.den)=x3,LL (enc y.den)=x4,LL (qn x)=z1,LL (qn y)=z2,LL (qd x)=z3,LL (qd y)=z4,LL (enc n)=x7,LL (enc d)=x8,LL (qn (x*y))=x9,LL (qd (x*y))=y1,qs (x*y)=sg at*;simp only[bne]at t5;simp[f57,t1,t2,t3,t4,t5,d1,d2]
theorem Aq (x y:Rat)(hx:qz x<=100000)(hy:qz y<=100000):Ca E0 54 [.d (qD x),.d (qD y)] (.d (qD (x+y)),none):=by
 obtain⟨k1,t1⟩:=(iI x ae).any;obtain⟨k2,t2⟩:=(iI y ae).any;have hx1:sz x.num.natAbs<=100000:=Qc2 (Q01 _ _) hx;have hx2:sz x.den<=100000:=Qc2 (Qz2 _ _) hx;have hy1:sz y.num.natAbs<=100000:=Qc2 (Q01 _ _) hy;have hy2:sz y.den<=100000:=Qc2 (Qz2 _ _) hy;have b1:=fC x.num.natAbs y.den;have b2:=fC y.num.natAbs x.den;have b3:=fC x.den y.den;have b4:=@vY (qs x) (qs y) (x.num.natAbs*y.den) (y.num.natAbs*x.den);have d1:=fun m=>Ap m x
 have d2:=fun m=>Ap m y
 obtain⟨k3,t3⟩:=(mK (a:=x.num.natAbs) (b:=y.den) ae ae).any;obtain⟨k4,t4⟩:=(mK (a:=y.num.natAbs) (b:=x.den) ae ae).any;obtain⟨k5,t5⟩:=(mK (a:=x.den) (b:=y.den) ae ae).any;obtain⟨k6,t6⟩:=(Bv (s:=o7 (qs x) (x.num.natAbs*y.den) (qs y) (y.num.natAbs*x.den)) (n:=nU (qs x) (x.num.natAbs*y.den) (qs y) (y.num.natAbs*x.den)) (d:=x.den*y.den) ae ae (Xc1 (den_pos x) (den_pos y))).any;rw[Gm]at t6;have n1:enc x.num.natAbs=qn x:=rfl;have n2:enc y.num.natAbs=qn y:=rfl;rw[n1]at t3;rw[n2]at t4;generalize x.num.natAbs*y.den=a,y.num.natAbs*x.den=b,x.den*y.den=d at*;obtain⟨k7,t7⟩:=(PG (a:=a) (b:=b) ae ae).any;obtain⟨k8,t8⟩:=(NP a b ae ae).any
 by_cases hs:qs x=qs y
 ·have e1:o7 (qs x) a (qs y) b=qs x:=by unfold o7;rw[if_pos hs]
  have e2:nU (qs x) a (qs y) b=a+b:=by unfold nU;rw[if_pos hs]
  rw[e1,e2]at t6;have hbq:(qs x==qs y)=true:=by simpa using hs
  replace t1:=t1 (k1+k2+k3+k4+k5+k6+k7) ae;replace t2:=t2 (k1+k2+k3+k4+k5+k6+k7) ae;replace t3:=t3 (k1+k2+k3+k4+k5+k6+k7) ae;replace t4:=t4 (k1+k2+k3+k4+k5+k6+k7) ae;replace t5:=t5 (k1+k2+k3+k4+k5+k6+k7) ae;replace t6:=t6 (k1+k2+k3+k4+k5+k6+k7) ae;replace t7:=t7 (k1+k2+k3+k4+k5+k6+k7) ae;generalize k1+k2+k3+k4+k5+k6+k7=N at*;refine Ca.bP (n:=N+90) ?_;rw[av rfl (k54:E0.fn _=_) rfl];simp only[qD,raw,LD]at*;generalize qs (x+y)=sg,qs x=s1,qs y=s2,LL (enc x.den)=x3,LL (enc y.den)=x4,LL (qn (x+y))=x9,LL (qd (x+y))=y1,LL (qn x)=z1,LL (qn y)=z2,LL (qd x)=z3,LL (qd y)=z4,LL (enc (a+b))=x5,LL (enc a)=x6,LL (enc b)=x7,LL (enc d)=x8 at*;simp[f54,t1,t2,t3,t4,t5,t6,t7,d1,d2,hbq]
 ·have hbq:(qs x==qs y)=false:=by simpa using hs
  by_cases hab:b<=a
  ·obtain⟨k9,t9⟩:=(Bw (a:=a) (b:=b) ae hab).any;have e1:o7 (qs x) a (qs y) b=qs x:=by unfold o7;rw[if_neg hs,if_pos hab]
   have e2:nU (qs x) a (qs y) b=a-b:=by unfold nU;rw[if_neg hs,if_pos hab]
   rw[e1,e2]at t6;have hc:(0:Int)<=dR a b:=by unfold dR;rw[if_neg ae];split<;>omega
   replace t1:=t1 (k1+k2+k3+k4+k5+k6+k8+k9) ae;replace t2:=t2 (k1+k2+k3+k4+k5+k6+k8+k9) ae;replace t3:=t3 (k1+k2+k3+k4+k5+k6+k8+k9) ae;replace t4:=t4 (k1+k2+k3+k4+k5+k6+k8+k9) ae;replace t5:=t5 (k1+k2+k3+k4+k5+k6+k8+k9) ae;replace t6:=t6 (k1+k2+k3+k4+k5+k6+k8+k9) ae;replace t8:=t8 (k1+k2+k3+k4+k5+k6+k8+k9) ae;replace t9:=t9 (k1+k2+k3+k4+k5+k6+k8+k9) ae;generalize k1+k2+k3+k4+k5+k6+k8+k9=N at*;refine Ca.bP (n:=N+90) ?_;rw[av rfl (k54:E0.fn _=_) rfl];simp only[qD,raw,LD]at*;generalize dR a b=cc,qs (x+y)=sg,qs x=s1,qs y=s2,LL (enc x.den)=x3,LL (enc y.den)=x4,LL (qn (x+y))=x9,LL (qd (x+y))=y1,LL (qn x)=z1,LL (qn y)=z2,LL (qd x)=z3,LL (qd y)=z4,LL (enc (a-b))=x5,LL (enc a)=x6,LL (enc b)=x7,LL (enc d)=x8 at*;simp[f54,t1,t2,t3,t4,t5,t6,t8,t9,d1,d2,hbq,hc]
  ·obtain⟨k9,t9⟩:=(Bw (a:=b) (b:=a) ae ae).any;have e1:o7 (qs x) a (qs y) b=qs y:=by unfold o7;rw[if_neg hs,if_neg hab]
   have e2:nU (qs x) a (qs y) b=b-a:=by unfold nU;rw[if_neg hs,if_neg hab]
   rw[e1,e2]at t6;have hc:dR a b=-1:=by unfold dR;rw[if_pos ae]
   rw[hc]at t8;replace t1:=t1 (k1+k2+k3+k4+k5+k6+k8+k9) ae;replace t2:=t2 (k1+k2+k3+k4+k5+k6+k8+k9) ae;replace t3:=t3 (k1+k2+k3+k4+k5+k6+k8+k9) ae;replace t4:=t4 (k1+k2+k3+k4+k5+k6+k8+k9) ae;replace t5:=t5 (k1+k2+k3+k4+k5+k6+k8+k9) ae;replace t6:=t6 (k1+k2+k3+k4+k5+k6+k8+k9) ae;replace t8:=t8 (k1+k2+k3+k4+k5+k6+k8+k9) ae;replace t9:=t9 (k1+k2+k3+k4+k5+k6+k8+k9) ae;generalize k1+k2+k3+k4+k5+k6+k8+k9=N at*;refine Ca.bP (n:=N+90) ?_;rw[av rfl (k54:E0.fn _=_) rfl];simp only[qD,raw,LD]at*;generalize qs (x+y)=sg,qs x=s1,qs y=s2,LL (enc x.den)=x3,LL (enc y.den)=x4,LL (qn (x+y))=x9,LL (qd (x+y))=y1,LL (qn x)=z1,LL (qn y)=z2,LL (qd x)=z3,LL (qd y)=z4,LL (enc (b-a))=x5,LL (enc a)=x6,LL (enc b)=x7,LL (enc d)=x8 at*;simp[f54,t1,t2,t3,t4,t5,t6,t8,t9,d1,d2,hbq]
def seB:aF:=f70.body.r.r.l.r.bl.lp
def Xt (ki:IntKind)(a b:List Int)(k:Nat)(t:FV):St:=(st0 [.d ((.s 1 (LK ki a))),.d ((.s 1 (LK ki b))),.u,.u,.u,dI a.length,dI k,t,.u] [])
def seF:St:=(st0 (.u::.u::dB false::qO) [])
theorem Li (ki:IntKind)(a b:List Int)(k:Nat)(x y:Int)(la:a.length<=1000000000)(hx:a[k]?=some x)(hy:b[k]?=some y) :
  EX E0 60 seB (Xt ki a b k .u)=if x=y then some (.norm,Xt ki a b (k+1) .u) else some (.ret,seF):=by
 have hk:=(bq hx)
 have hx':(LK ki a)[k]?=some (.v (.int ki x)):=by simp[LK,hx]
 have hy':(LK ki b)[k]?=some (.v (.int ki y)):=by simp[LK,hy]
 have hx2:=idx hx';have hy2:=idx hy';have aR:ai .i64 ((k:Int)+1)=(k:Int)+1:=wrap_i64 ae;have hk1:((k+1:Nat):Int)=(k:Int)+1:=ae;have hk0:(0:Int)<=(k:Int):=ae;unfold Xt seF;rw[hk1];generalize LK ki a=as',LK ki b=bs' at*
 by_cases h:x=y
 ·subst h;simp[seB,f70,hk,hk0,hx',hx2,hy',hy2,aR]
 ·have hne:(x != y)=true:=by simpa using h
  rw[if_neg h];simp[seB,f70,hk,hk0,hx',hx2,hy',hy2,hne]
theorem PH (ki:IntKind)(a b:List Int)(la:a.length<=1000000000)(hl:a.length=b.length) :
  ∃ r,Ex E0 (.loop seB) (Xt ki a b 0 .u) r/\((a=b/\r=(.exit 0,Xt ki a b a.length (dB false)))\/(a≠b/\r=(.ret,seF))):=by
 refine Ex.inv (S:=fun k:Nat=>Xt ki a b k .u) (fun k=>a.length-k) (fun k=>k<=a.length/\a.take k=b.take k) _ ?_ 0 ⟨ae,aA⟩;rintro k ⟨h1,h2⟩
 by_cases hk:k<a.length
 ·have hx:a[k]?=some (a[k]'hk):=Qa1 hk;have hy:b[k]?=some (b[k]'(by omega)):=Qa1 ae;have hr:=Li ki a b k _ _ la hx hy
  by_cases h:a[k]'hk=b[k]'(by omega)
  ·rw[if_pos h]at hr;refine .inl ⟨k+1,Ex.of hr,ae,ae,?_⟩;rw[Qj1 hk,Qj1 ae,h2,h]
  ·rw[if_neg h]at hr;refine .inr ⟨_,Ex.of hr,aA,.inr ⟨?_,rfl⟩⟩;intro he;subst he;exact h rfl
 ·have he:k=a.length:=ae;subst he;rw[Qn0,hl,Qn0]at h2;refine .inr ⟨_,Ex.of (n:=60) ?_,?_,.inl ⟨h2,rfl⟩⟩
  ·unfold Xt;simp[seB,f70]
  ·simp
theorem Tp (ki:IntKind)(a b:List Int)(la:a.length<=1000000000)(lb:b.length<=1000000000):Ca E0 70 [.d ((.s 1 (LK ki a))),.d ((.s 1 (LK ki b)))] (dB (decide (a=b)),none):=by
 have hla:(LK ki a).length=a.length:=by simp[LK]
 have hlb:(LK ki b).length=b.length:=by simp[LK]
 by_cases hl:a.length=b.length
 ·obtain⟨r,hr,h⟩:=PH ki a b la hl;have abW:(LK ki b).length=a.length:=ae;have Tq:Ex E0 f70.body.l (st0 (.d ((.s 1 (LK ki a)))::.d ((.s 1 (LK ki b)))::sO) []) (.norm,(st0 (.d ((.s 1 (LK ki a)))::.d ((.s 1 (LK ki b)))::sO) [])):=by
   refine Ex.of (n:=40) ?_;simp[f70]
  have Tt:Ex E0 f70.body.r.l (st0 (.d ((.s 1 (LK ki a)))::.d ((.s 1 (LK ki b)))::sO) []) (.norm,(st0 (.d ((.s 1 (LK ki a)))::.d ((.s 1 (LK ki b)))::.u::.u::dB false::vR) [])):=by
   refine Ex.of (n:=40) ?_;simp[f70,hla,abW]
  have Tu:Ex E0 f70.body.r.r.l.l (st0 (.d ((.s 1 (LK ki a)))::.d ((.s 1 (LK ki b)))::.u::.u::dB false::vR) []) (.norm,Xt ki a b 0 .u):=by
   refine Ex.of (n:=40) ?_;unfold Xt;simp[f70,hla]
  rcases h with ⟨he,rfl⟩|⟨he,rfl⟩
  ·have hd:decide (a=b)=true:=by simpa using he
   rw[hd];refine Ca.body (o:=.ret) (st1:=(st0 (.u::.u::dB true::qO) [])) rfl (k70:E0.fn _=_) rfl ?_ (by intro id h;cases h) ?_
   ·show Ex E0 (.seq f70.body.l (.seq f70.body.r.l (.seq (.seq f70.body.r.r.l.l (.block 0 (.loop seB))) f70.body.r.r.r))) _ _;refine Tq.seq (Tt.seq ((Tu.seq hr.block).seq (Ex.of (n:=40) ?_)));unfold Xt;simp[f70]
   ·simp[f70]
  ·have hd:decide (a=b)=false:=by simpa using he
   rw[hd];refine Ca.body (o:=.ret) (st1:=seF) rfl (k70:E0.fn _=_) rfl ?_ (by intro id h;cases h) ?_
   ·show Ex E0 (.seq f70.body.l (.seq f70.body.r.l (.seq (.seq f70.body.r.r.l.l (.block 0 (.loop seB))) f70.body.r.r.r))) _ _;exact Tq.seq (Tt.seq (Ex.dX (Tu.seq hr.dA)))
   ·simp[f70,seF]
 ·have hd:decide (a=b)=false:=by
   simp only[decide_eq_false_iff_not];intro he;subst he;exact hl rfl
  have hne:((a.length:Int) != (b.length:Int))=true:=by simp;omega
  rw[hd];refine Ca.bP (n:=60) ?_;rw[av rfl (k70:E0.fn _=_) rfl];generalize LK ki a=as',LK ki b=bs' at*;simp[f70,hla,hlb,hne]
theorem II (l:List Nat):LL l=LK .u32 (l.map fun(x:Nat)=>(x:Int)):=by simp[LL,LK]
theorem o9 {a b:List Nat}:(a.map fun(x:Nat)=>(x:Int))=(b.map fun(x:Nat)=>(x:Int))↔a=b:=by
 constructor
 ·intro h;exact(X32 (fun x y h=>by exact_mod_cast h)).1 h
 ·rintro rfl;rfl
theorem NQ (a b:List Nat)(la:a.length<=1000000000)(lb:b.length<=1000000000):Ca E0 101 [.d (LD a),.d (LD b)] (dB (decide (a=b)),none):=by
 have h:=Tp .u32 (a.map fun(x:Nat)=>(x:Int)) (b.map fun(x:Nat)=>(x:Int)) (by simpa using la) (by simpa using lb);have e:decide ((a.map fun(x:Nat)=>(x:Int))=(b.map fun(x:Nat)=>(x:Int)))=decide (a=b):=by simp only[o9]
 rw[e]at h;simp only[LD,II];exact Ca.same ((aM 101 f101:E0.fn _=_).trans (k70:E0.fn _=_).symm) rfl rfl h
theorem Bz (s1 s2:Bool)(a1 b1 a2 b2:List Nat)(h1:a1.length<=1000000000)(h2:b1.length<=1000000000)(h3:a2.length<=1000000000)(h4:b2.length<=1000000000) :
  Ca E0 72 [.d (raw s1 a1 b1),.d (raw s2 a2 b2)] (dB (s1==s2&&decide (a1=a2)&&decide (b1=b2)),none):=by
 obtain⟨Kq,_,t1,t2⟩:=((NQ a1 a2 h1 h3).j ((NQ b1 b2 h2 h4).any)).at 0;generalize Kq=N at*;refine Ca.bP (n:=N+60) ?_;rw[av rfl (aM 72 f72:E0.fn _=_) rfl];generalize decide (a1=a2)=p,decide (b1=b2)=q at*;simp only[raw,LD]at*;generalize LL a1=x1,LL a2=x2,LL b1=y1,LL b2=y2 at*;cases s1<;>cases s2<;>cases p<;>simp[f72,t1,t2]
def Lj:aF:=f78.body.r.r.l.r.bl.lp
def D8 (a b:List Nat)(k:Nat)(t:FV):St:=(st0 [.d (LD a),.d (LD b),.u,dI k,.u,t,.u] [])
def Tv:St:=(st0 (.u::.u::dB false::vR) [])
theorem Ll (a b:List Nat)(k x y:Nat)(la:a.length<=1000000000)(hx:a[k]?=some x)(hy:b[k]?=some y) :
  EX E0 60 Lj (D8 a b k .u)=if x=y then some (.norm,D8 a b (k+1) .u) else some (.ret,Tv):=by
 have hk:=(bq hx)
 have hla:(LL a).length=a.length:=by simp[LL]
 have hx':(LL a)[k]?=some (.v (.int .u32 (x:Int))):=by simp[LL,hx]
 have hy':(LL b)[k]?=some (.v (.int .u32 (y:Int))):=by simp[LL,hy]
 have hx2:=idx hx';have hy2:=idx hy';have aR:ai .i64 ((k:Int)+1)=(k:Int)+1:=wrap_i64 ae;have hk1:((k+1:Nat):Int)=(k:Int)+1:=ae;have hk0:(0:Int)<=(k:Int):=ae;have hkb:k<(LL b).length:=by simpa[LL] using(bq hy)
 unfold D8 Tv;rw[hk1];simp only[LD];generalize LL a=as',LL b=bs' at*
 by_cases h:x=y
 ·subst h;simp[Lj,f78,hla,hk,hk0,hkb,hx',hx2,hy',hy2,aR]
 ·have hne:((x:Int) != (y:Int))=true:=by simp;omega
  rw[if_neg h];simp[Lj,f78,hla,hk,hk0,hkb,hx',hx2,hy',hy2,hne]
theorem PI (a b:List Nat)(la:a.length<=1000000000)(hl:a.length=b.length) :
  ∃ r,Ex E0 (.loop Lj) (D8 a b 0 .u) r/\((a=b/\r=(.exit 0,D8 a b a.length (dB false)))\/(a≠b/\r=(.ret,Tv))):=by
 refine Ex.inv (S:=fun k:Nat=>D8 a b k .u) (fun k=>a.length-k) (fun k=>k<=a.length/\a.take k=b.take k) _ ?_ 0 ⟨ae,aA⟩;rintro k ⟨h1,h2⟩
 by_cases hk:k<a.length
 ·have hx:a[k]?=some (a[k]'hk):=Qa1 hk;have hy:b[k]?=some (b[k]'(by omega)):=Qa1 ae;have hr:=Ll a b k _ _ la hx hy
  by_cases h:a[k]'hk=b[k]'(by omega)
  ·rw[if_pos h]at hr;refine .inl ⟨k+1,Ex.of hr,ae,ae,?_⟩;rw[Qj1 hk,Qj1 ae,h2,h]
  ·rw[if_neg h]at hr;refine .inr ⟨_,Ex.of hr,aA,.inr ⟨?_,rfl⟩⟩;intro he;subst he;exact h rfl
 ·have he:k=a.length:=ae;subst he;have hla:(LL a).length=a.length:=by simp[LL]
  rw[Qn0,hl,Qn0]at h2;refine .inr ⟨_,Ex.of (n:=60) ?_,?_,.inl ⟨h2,rfl⟩⟩
  ·unfold D8;simp only[LD];generalize LL a=as' at*;generalize LL b=bs' at*;generalize a.length=m at*;simp[Lj,f78,hla]
  ·simp
theorem NR (a b:List Nat)(la:a.length<=1000000000)(lb:b.length<=1000000000):Ca E0 78 [.d (LD a),.d (LD b)] (dB (decide (a=b)),none):=by
 have hla:(LL a).length=a.length:=by simp[LL]
 have hlb:(LL b).length=b.length:=by simp[LL]
 by_cases hl:a.length=b.length
 ·obtain⟨r,hr,h⟩:=PI a b la hl;have abW:(LL b).length=a.length:=ae;have Tq:Ex E0 f78.body.l (st0 (.d (LD a)::.d (LD b)::lI) []) (.norm,(st0 (.d (LD a)::.d (LD b)::lI) [])):=by
   refine Ex.of (n:=40) ?_;simp[f78]
  have Tt:Ex E0 f78.body.r.l (st0 (.d (LD a)::.d (LD b)::lI) []) (.norm,(st0 [.d (LD a),.d (LD b),.u,.u,dB false,.u,.u] [])):=by
   refine Ex.of (n:=40) ?_;simp[f78,LD,hla,abW]
  have Tu:Ex E0 f78.body.r.r.l.l (st0 [.d (LD a),.d (LD b),.u,.u,dB false,.u,.u] []) (.norm,D8 a b 0 .u):=by
   refine Ex.of (n:=40) ?_;unfold D8;simp[f78,LD,hla]
  rcases h with ⟨he,rfl⟩|⟨he,rfl⟩
  ·have hd:decide (a=b)=true:=by simpa using he
   rw[hd];refine Ca.body (o:=.ret) (st1:=(st0 (.u::.u::dB true::vR) [])) rfl (k78:E0.fn _=_) rfl ?_ (by intro id h;cases h) ?_
   ·show Ex E0 (.seq f78.body.l (.seq f78.body.r.l (.seq (.seq f78.body.r.r.l.l (.block 0 (.loop Lj))) f78.body.r.r.r))) _ _;refine Tq.seq (Tt.seq ((Tu.seq hr.block).seq (Ex.of (n:=40) ?_)));unfold D8;simp[f78]
   ·simp[f78]
  ·have hd:decide (a=b)=false:=by simpa using he
   rw[hd];refine Ca.body (o:=.ret) (st1:=Tv) rfl (k78:E0.fn _=_) rfl ?_ (by intro id h;cases h) ?_
   ·show Ex E0 (.seq f78.body.l (.seq f78.body.r.l (.seq (.seq f78.body.r.r.l.l (.block 0 (.loop Lj))) f78.body.r.r.r))) _ _;exact Tq.seq (Tt.seq (Ex.dX (Tu.seq hr.dA)))
   ·simp[f78,Tv]
 ·have hd:decide (a=b)=false:=by
   simp only[decide_eq_false_iff_not];intro he;subst he;exact hl rfl
  have hne:((a.length:Int) != (b.length:Int))=true:=by simp;omega
  rw[hd];refine Ca.bP (n:=60) ?_;rw[av rfl (k78:E0.fn _=_) rfl];simp only[LD];generalize LL a=as',LL b=bs' at*;simp[f78,hla,hlb,hne]
theorem mM (s1 s2:Bool)(a1 b1 a2 b2:List Nat)(h1:a1.length<=1000000000)(h2:b1.length<=1000000000)(h3:a2.length<=1000000000)(h4:b2.length<=1000000000) :
  Ca E0 39 [.d (raw s1 a1 b1),.d (raw s2 a2 b2)] (dB (s1==s2&&decide (a1=a2)&&decide (b1=b2)),none):=by
 obtain⟨Kq,_,t1,t2⟩:=((NR a1 a2 h1 h3).j ((NR b1 b2 h2 h4).any)).at 0;generalize Kq=N at*;refine Ca.bP (n:=N+60) ?_;rw[av rfl (aM 39 f39:E0.fn _=_) rfl];generalize decide (a1=a2)=p,decide (b1=b2)=q at*;simp only[raw,LD]at*;generalize LL a1=x1,LL a2=x2,LL b1=y1,LL b2=y2 at*;cases s1<;>cases s2<;>cases p<;>simp[f39,t1,t2]
theorem Yr (x y:Rat)(hx:qz x<=100000)(hy:qz y<=100000):Ca E0 62 [.d (qD x),.d (qD y)] (.d (qD (x-y)),none):=by
 obtain⟨Kq,_,t1,t2⟩:=((Yq y ae).j ((Aq x (-y) hx (by rw[abO];omega)).any)).at 0;rw[<-Rat.sub_eq_add_neg]at t2;generalize Kq=N at*;refine Ca.bP (n:=N+60) ?_;rw[av rfl (aM 62 f62:E0.fn _=_) rfl];simp only[qD,raw,LD]at*;generalize qs (x-y)=sg,qs (-y)=s3,qs x=s1,qs y=s2,LL (qn (x-y))=x9,LL (qd (x-y))=y1,LL (qn (-y))=x8,LL (qd (-y))=y8,LL (qn x)=z1,LL (qn y)=z2,LL (qd x)=z3,LL (qd y)=z4 at*;simp[f62,t1,t2]
theorem IJ (x y:Rat)(hx:qz x<=100000)(hy:qz y<=100000):Ca E0 93 [.d (qD x),.d (qD y)] (dI (x-y).num.sign,none):=by
 obtain⟨k1,t1⟩:=(Yr x y hx hy).any;have:=Td x y;obtain⟨k2,t2⟩:=(mJ (x-y) ae).any;replace t1:=t1 (k1+k2) ae;replace t2:=t2 (k1+k2) ae;generalize k1+k2=N at*;refine Ca.bP (n:=N+60) ?_;rw[av rfl (aM 93 f93:E0.fn _=_) rfl];generalize (x-y).num.sign=res at*;simp only[qD,raw,LD]at*;generalize qs (x-y)=sg,qs x=s1,qs y=s2,LL (qn (x-y))=x9,LL (qd (x-y))=y1,LL (qn x)=z1,LL (qn y)=z2,LL (qd x)=z3,LL (qd y)=z4 at*;simp[f93,t1,t2]
theorem IK (x y:Rat):((x-y).num.sign<0↔x<y)/\(0<(x-y).num.sign↔y<x):=by
 have h1:=Rat.lt_iff_sub_pos x y;have h2:=Rat.lt_iff_sub_pos y x;have p:∀ z:Rat,0<z↔0<z.num:=by
  intro z;constructor
  ·intro h;have a:=Rat.num_nonneg.2 (Rat.le_of_lt h);have b:z.num≠0:=by
    intro e;rw[Rat.num_eq_zero.1 e]at h;exact absurd h cK
   omega
  ·intro h;have a:=Rat.num_nonneg.1 (show 0<=z.num by omega);have b:z≠0:=by
    intro e;rw[e]at h;exact absurd h cK
   exact Rat.lt_of_le_of_ne a (Ne.symm b)
 have e:(y-x).num=-(x-y).num:=by
  rw[<-Rat.neg_num]
  congr 1
  grind
 rw[p,e]at h1;rw[p]at h2;rw[h1,h2];rcases Q81 (x-y).num 0 with h|h|h
 ·rw[Q00 h];omega
 ·rw[h];simp
 ·rw[Q80 h];omega
theorem IL (x y:Rat)(hx:qz x<=100000)(hy:qz y<=100000):Ca E0 55 [.d (qD x),.d (qD y)] (dB (decide (x<y)),none):=by
 obtain⟨N,t⟩:=(IJ x y hx hy).get;have e:decide ((x-y).num.sign<0)=decide (x<y):=by simp only[(IK x y).1]
 rw[<-e];refine Ca.bP (n:=N+60) ?_;rw[av rfl (aM 55 f55:E0.fn _=_) rfl];generalize (x-y).num.sign=res at*;simp only[qD,raw,LD]at*;generalize qs x=s1,qs y=s2,LL (qn x)=z1,LL (qn y)=z2,LL (qd x)=z3,LL (qd y)=z4 at*;simp[f55,t]
theorem wz (n:Nat)(v:Int)(hv:-9223372036854775808<=v/\v<9223372036854775808):CL E0 (n+40) 107 [dI v] []=some (.d (.v (.int .u64 v.natAbs)),none):=by
 rw[av rfl (aM 107 f107:E0.fn _=_) rfl]
 by_cases h:v<0
 ·have w1:ai .i64 (v+1)=v+1:=wrap_i64 ae;have w2:IntKind.wrap .i64 (-(v+1))=-(v+1):=by rw[<-bS];exact wrap_i64 ae
  have w3:ai .u64 (-(v+1))=-(v+1):=wrap_u64 ae;have w4:ai .u64 (-(v+1)+1)=(v.natAbs:Int):=by rw[wrap_u64 ae];omega
  generalize v.natAbs=va at*;simp[f107,h,w1,w2,w3,w4]
 ·have w1:ai .u64 v=(v.natAbs:Int):=by rw[gm];omega
  generalize v.natAbs=va at*;simp[f107,h,w1]
theorem BA (v:Nat)(hv:v<18446744073709551616):Ca E0 106 [.d (.v (.int .u64 v))] (.d (LD (enc v)),none):=by
 obtain⟨n0,hc⟩:=(v_ [v % 4294967296,v / 4294967296] aA).get;rw[NN hv]at hc;have w2:ai .u32 (v:Int)=((v % 4294967296:Nat):Int):=by rw[dJ];omega
 have w3:Int.fdiv (v:Int) 4294967296=((v / 4294967296:Nat):Int):=by
  rw[Qm0 _ ae];omega
 have w4:ai .u32 ((v / 4294967296:Nat):Int)=((v / 4294967296:Nat):Int):=wrap_u32 ae;refine Ca.bP (n:=n0+60) ?_;rw[av rfl (aM 106 f106:E0.fn _=_) rfl];simp only[LD,LL,Qe2,Qc1]at hc ⊢;generalize List.map (fun(x:Nat)=>D.v (Value.int IntKind.u32 (x:Int))) (enc v)=res at*;generalize v / 4294967296=hi,v % 4294967296=lo at*;simp[IntKind.bits,f106,w2,w3,w4,hc]
theorem Tw (a b:Int)(ha:-9223372036854775808<=a/\a<9223372036854775808)(hb:-9223372036854775808<=b/\b<9223372036854775808)(h0:b≠0) :
  Ca E0 77 [dI a,dI b] (.d (.t [qD (q8 a b),vI 0]),none):=by
 have l1:=Gp ha;have l2:=Gp hb;have a1:=fun m=>wz m a ha
 have a2:=fun m=>wz m b hb
 obtain⟨Kq,_,t1,t2,t3⟩:=((BA a.natAbs ae).j ((BA b.natAbs ae).j ((Bv (s:=decide (a<0) != decide (b<0)) (n:=a.natAbs) (d:=b.natAbs) ae ae ae).any))).at 0;have e:vX (decide (a<0) != decide (b<0)) a.natAbs b.natAbs=q8 a b:=rfl;rw[e]at t3;generalize Kq=N at*;refine Ca.bP (n:=N+80) ?_;rw[av rfl (aM 77 f77:E0.fn _=_) rfl];have hb0:(b==0)=false:=by simpa using h0
 simp only[qD,raw,LD]at*;generalize LL (qn (q8 a b))=x9,LL (qd (q8 a b))=y1,qs (q8 a b)=sg,LL (enc a.natAbs)=x1,LL (enc b.natAbs)=x2 at*;generalize a.natAbs=na,b.natAbs=nb at*;simp only[bne]at t3;simp[f77,uz,a1,a2,t1,t2,t3,hb0]
theorem BB (a b:Int)(ha:-9223372036854775808<=a/\a<9223372036854775808)(hb:-9223372036854775808<=b/\b<9223372036854775808)(h0:b≠0) :
  Ca E0 38 [dI a,dI b] (.d (qD (q8 a b)),none):=by
 obtain⟨N,t⟩:=(Tw a b ha hb h0).get;refine Ca.bP (n:=N+80) ?_;rw[av rfl (aM 38 f38:E0.fn _=_) rfl];simp only[qD,raw,LD]at*;generalize LL (qn (q8 a b))=x9,LL (qd (q8 a b))=y1,qs (q8 a b)=sg at*;simp[f38,uz,t]
end Fi.S
