import Derived.Test.YtgngjdakilfmoaaGreatDoorCB
set_option linter.unusedVariables false
set_option linter.unusedSimpArgs false
noncomputable section
namespace Fi.S
open Go Fi
set_option maxHeartbeats 8000000
theorem Ca.same {E:Env}{g g':Nat}{args:List FV}{r:FV × Option (List ah)}(hf:E.fn g'=E.fn g)(hp:E.jq g=none)(hp':E.jq g'=none)(h:Ca E g args r)(hB:E.iO g'=E.iO g:=by rfl):Ca E g' args r:=by
 obtain⟨n0,h⟩:=h;refine⟨n0+1,fun n hn => ?_⟩;obtain⟨m,rfl⟩:∃ m,n=m+1:=⟨n-1,ae⟩
 rw[<-h (m+1) ae];simp only[cz,enter,hf,hp,hp',hB]
theorem xe (l:List Nat)(hl:l.length<=1000000000):Ca E0 169 [.d (LD l)] (.d (LD (trim l)),none) :=
 Ca.same (g:=231) ((aO 169 f169:E0.fn _=_).trans (k231:E0.fn _=_).symm) rfl rfl (iL l hl)
theorem xg (n:Nat)(l:List Nat)(hl:l.length<=1000000000)(i:Nat)(hi:i<=1000000000)(hb:∀ x ∈ l,x<4294967296) :
  CL E0 (n+30) 173 [.d (LD l),dI i] []=some (.d (.v (.int .u64 (bH l i))),none):=by
 rw[aA rfl (aO 173 f173:E0.fn _=_) rfl]
 by_cases h:i<l.length
 ·have h1:¬ ((i:Int) ≥ (l.length:Int)):=ae;have h2:¬ ((l.length:Int)<=(i:Int)):=ae;have h3:¬ (l.length<=i):=ae;have hx:l[i]?=some l[i]:=Qa1 h;have hw:ak .u64 (l[i]:Int)=(l[i]:Int):=wrap_u64 (by have:=hb l[i] (Qi0 h);omega);have ha:bH l i=l[i]:=by simp[bH,hx]
  simp[f173,LD,LL,h,h1,h2,h3,hx,hw,ha]
 ·have h1:((i:Int) ≥ (l.length:Int)):=ae;have h2:l.length<=i:=ae;have ha:bH l i=0:=by simp[bH,Qp1 (Nat.le_of_not_lt h)]
  simp[f173,LD,LL,h1,h2,ha]
theorem JG (n:Nat)(v:Int):CL E0 (n+30) 174 [dI v] []=some (dI v.sign,none):=by
 rw[aA rfl (aO 174 f174:E0.fn _=_) rfl];rcases Q82 v 0 with h|h|h
 ·rw[Q30 h];simp[f174,h]
 ·rw[h];simp[f174]
 ·have h2:¬ v<0:=ae;rw[Q81 h];simp[f174,h,h2]
theorem Ci (n:Nat)(l:List Nat):CL E0 (n+30) 172 [.d (LD l)] []=some (dB (decide (l=[1])),none):=by
 rw[aA rfl (aO 172 f172:E0.fn _=_) rfl]
 match l with
 | []=>simp[f172,LD,LL]
 | [x] =>
  by_cases h:x=1
  ·subst h;simp[f172,LD,LL]
  ·have h2:((x:Int)==1)=false:=by simp;omega
   simp[f172,LD,LL,h,h2]
 | x::y::r =>
  have h2:(((r.length:Int)+1+1)==1)=false:=by simp;omega
  have h3:(((r.length:Int)+1)==0)=false:=by simp;omega
  simp[f172,LD,LL,h2,h3]
def cpB:aF:=f91.body.r.r.l.r.bl.lp
def Tw (a b:List Nat)(k:Int)(t:FV):St:=(st0 [.d (LD a),.d (LD b),.u,dI k,.u,t,.u] [])
def cpR (s:Int):St:=(st0 (.u::.u::dI s::wW) [])
theorem UG (a b:List Nat):EX E0 40 cpB (Tw a b (-1) .u)=some (.exit 0,Tw a b (-1) (dB false)):=by
 unfold Tw;simp only[LD];generalize LL a=as',LL b=bs at*;simp[cpB,f91]
theorem ME (a b:List Nat)(k x y:Nat)(hk:k<=1000000000)(hx:a[k]?=some x)(hy:b[k]?=some y)(hxl:x<4294967296)(hyl:y<4294967296) :
  EX E0 80 cpB (Tw a b k .u)=if x=y then some (.norm,Tw a b ((k:Int)-1) .u) else some (.ret,cpR ((x:Int)-(y:Int)).sign):=by
 have hxa:(LL a)[k]?=some (.v (.int .u32 (x:Int))):=by simp[LL,hx]
 have hxb:(LL b)[k]?=some (.v (.int .u32 (y:Int))):=by simp[LL,hy]
 have ha:k<(LL a).length:=by simpa[LL] using(aT hx)
 have hb:k<(LL b).length:=by simpa[LL] using(aT hy)
 have hdec:ak .i64 ((k:Int)-1)=(k:Int)-1:=wrap_i64 ae;have hk0:(0:Int)<=(k:Int):=ae;have w1:ak .i64 (x:Int)=(x:Int):=wrap_i64 ae;have w2:ak .i64 (y:Int)=(y:Int):=wrap_i64 ae;have w3:ak .i64 ((x:Int)-(y:Int))=(x:Int)-(y:Int):=wrap_i64 ae;have hs:=JG;unfold Tw cpR;simp only[LD];generalize LL a=as',LL b=bs at*;have i1:=idx hxa;have i2:=idx hxb
 by_cases h:x=y
 ·rw[if_pos h];subst h;simp[cpB,f91,hk0,ha,hb,hxa,hxb,i1,i2,hdec]
 ·have hne:((x:Int) != (y:Int))=true:=by simp;omega
  rw[if_neg h];simp[cpB,f91,hk0,ha,hb,hxa,hxb,i1,i2,hne,w1,w2,w3,hs]
theorem yS (l:List Nat)(k:Nat):val l=cu l k+4294967296 ^ k*val (l.drop k):=by
 unfold cu;rcases Nat.le_total k l.length with h|h
 ·conv=>lhs;rw[<-Xe2 k l,val_append,Qq0,Xs2 h]
 ·rw[Qe1 h,iN h,Nat.mul_zero,Q52]
theorem QH (a b:List Nat)(ha:bY a)(hb:bY b)(hl:a.length=b.length)(hm:a.length<=1000000000) :
  ∃ r,Ex E0 (.loop cpB) (Tw a b ((a.length:Int)-1) .u) r/\((r=(.exit 0,Tw a b (-1) (dB false))/\val a=val b)\/∃ s,r=(.ret,cpR s)/\s=d_ (val a) (val b)):=by
 refine Ex.inv (S:=fun j:Nat=>Tw a b ((j:Int)-1) .u) (fun j=>j) (fun j=>j<=a.length/\val (a.drop j)=val (b.drop j)) _ ?_ a.length ?_
 ·rintro j ⟨h1,h2⟩;cases j with
  | zero =>
   refine .inr ⟨_,?_,aC,.inl ⟨rfl,by simpa using h2⟩⟩;have:=UG a b;simpa using Ex.of this
  | succ k =>
   have hx:a[k]?=some (a[k]'(by omega)):=Qa1 ae;have hy:b[k]?=some (b[k]'(by omega)):=Qa1 ae;have ex:bH a k=a[k]'(by omega):=by simp[bH,hx]
   have ey:bH b k=b[k]'(by omega):=by simp[bH,hy]
   have hxl:=ha _ (Qi0 (show k<a.length by omega));have hyl:=hb _ (Qi0 (show k<b.length by omega));generalize a[k]'(by omega)=x,b[k]'(by omega)=y at*;have hr:=ME a b k x y ae hx hy hxl hyl;simp only[show(((k+1:Nat):Int)-1)=(k:Int) by omega];have da:=jo a k;have db:=jo b k
   by_cases h:x=y
   ·rw[if_pos h]at hr;refine .inl ⟨k,Ex.of hr,ae,ae,?_⟩;rw[da,db,ex,ey,h,h2]
   ·rw[if_neg h]at hr;refine .inr ⟨_,Ex.of hr,aC,.inr ⟨_,rfl,?_⟩⟩;have sa:=yS a k;have sb:=yS b k;rw[da,ex]at sa;rw[db,ey,<-h2]at sb;have la:=pE ha k;have lb:=pE hb k;unfold d_;rcases Nat.lt_or_gt_of_ne h with hlt|hgt
    ·have:=jQ (va:=cu a k) (vb:=cu b k) (P:=4294967296 ^ k) (x:=x+4294967296*val (a.drop (k+1))) (y:=y+4294967296*val (a.drop (k+1))) la ae;rw[if_pos ae,Q30 ae]
    ·have:=jQ (va:=cu b k) (vb:=cu a k) (P:=4294967296 ^ k) (x:=y+4294967296*val (a.drop (k+1))) (y:=x+4294967296*val (a.drop (k+1))) lb ae;rw[if_neg ae,if_neg ae,Q81 ae]
 ·exact⟨Qd2 _,by rw[iN (Qd2 _),iN ae]⟩
theorem O5 (a b:Nat)(la:sz a<=1000000000)(lb:sz b<=1000000000):Ca E0 91 [.d (LD (enc a)),.d (LD (enc b))] (dI (d_ a b),none):=by
 unfold sz at la lb;have vN:(LL (enc a)).length=(enc a).length:=by simp[LL]
 have ES:(LL (enc b)).length=(enc b).length:=by simp[LL]
 by_cases hl:(enc a).length=(enc b).length
 ·obtain⟨r,hloop,hq⟩:=QH (enc a) (enc b) (aV a) (aV b) hl la;rw[a_,a_]at hq;have hdec:ak .i64 (((enc a).length:Int)-1)=((enc a).length:Int)-1:=wrap_i64 ae;have hA:Ex E0 f91.body.l (st0 (.d (LD (enc a))::.d (LD (enc b))::n_) []) (.norm,(st0 (.d (LD (enc a))::.d (LD (enc b))::n_) [])):=by
   refine Ex.of (n:=40) ?_;simp[f91]
  have hB:Ex E0 f91.body.r.l (st0 (.d (LD (enc a))::.d (LD (enc b))::n_) []) (.norm,(st0 [.d (LD (enc a)),.d (LD (enc b)),.u,.u,dB false,.u,.u] [])):=by
   refine Ex.of (n:=40) ?_;simp only[LD];generalize LL (enc a)=as',LL (enc b)=bs at*;simp[f91,vN,ES,hl]
  have hC:Ex E0 f91.body.r.r.l.l (st0 [.d (LD (enc a)),.d (LD (enc b)),.u,.u,dB false,.u,.u] []) (.norm,Tw (enc a) (enc b) (((enc a).length:Int)-1) .u):=by
   refine Ex.of (n:=40) ?_;unfold Tw;simp only[LD];generalize LL (enc a)=as',LL (enc b)=bs,(enc a).length=m at*;simp[f91,vN,hdec]
  rcases hq with ⟨rfl,he⟩|⟨s,rfl,rfl⟩
  ·subst he;have e0:d_ a a=0:=by simp[d_]
   rw[e0];refine Ca.body (o:=.ret) (st1:=cpR 0) rfl (k91:E0.fn _=_) rfl ?_ (by intro id h;cases h) (by unfold cpR;simp[f91]);show Ex E0 (.seq f91.body.l (.seq f91.body.r.l (.seq (.seq f91.body.r.r.l.l (.block 0 (.loop cpB))) f91.body.r.r.r))) _ _;refine hA.seq (hB.seq ((hC.seq hloop.block).seq (Ex.of (n:=40) ?_)));unfold Tw cpR;simp[f91]
  ·refine Ca.body (o:=.ret) (st1:=cpR (d_ a b)) rfl (k91:E0.fn _=_) rfl ?_ (by intro id h;cases h) (by unfold cpR;simp[f91]);show Ex E0 (.seq f91.body.l (.seq f91.body.r.l (.seq (.seq f91.body.r.r.l.l (.block 0 (.loop cpB))) f91.body.r.r.r))) _ _;exact hA.seq (hB.seq ((hC.seq hloop.dR).gp))
 ·have hw:ak .i64 (((enc a).length:Int)-((enc b).length:Int))=((enc a).length:Int)-((enc b).length:Int):=wrap_i64 ae;have hs:=JG;have hc:(((enc a).length:Int)-((enc b).length:Int)).sign=d_ a b:=by
   have ga:=yQ a;have gb:=yQ b;unfold d_;rcases Nat.lt_or_gt_of_ne hl with h|h
   ·have hb0:0<b:=by
     rcases Qr2 b with e|e
     ·rw[e,dH]at h;simp at h
     ·exact e
    have h2:=Mx hb0;have h3:=Qv0 (n:=4294967296) ae (show(enc a).length<=(enc b).length-1 by omega);rw[if_pos ae,Q30 ae]
   ·have ha0:0<a:=by
     rcases Qr2 a with e|e
     ·rw[e,dH]at h;simp at h
     ·exact e
    have h2:=Mx ha0;have h3:=Qv0 (n:=4294967296) ae (show(enc b).length<=(enc a).length-1 by omega);rw[if_neg ae,if_neg ae,Q81 ae]
  have hne:(((enc a).length:Int) != ((enc b).length:Int))=true:=by simp;omega
  refine Ca.bQ (n:=90) ?_;rw[aA rfl (k91:E0.fn _=_) rfl];rw[<-hc];simp only[LD];generalize LL (enc a)=as',LL (enc b)=bs,(enc a).length=m1,(enc b).length=m2 at*;simp[f91,vN,ES,hne,hw,hs]
def wpB:aF:=f90.body.r.r.r.l.r.bl.lp
def wpS (a b o:List Nat)(k s:Nat)(t:FV):St:=(st0 [.d (LD a),.d (LD b),.u,eD k,.d (.v (.int .u64 s)),dI k,.u,t] (eF k (LL o)))
theorem QI (a b o:List Nat)(k s:Nat)(hc:¬ k<=max a.length b.length):EX E0 60 wpB (wpS a b o k s .u)=some (.exit 0,wpS a b o k s (dB false)):=by
 have vN:(LL a).length=a.length:=by simp[LL]
 have ES:(LL b).length=b.length:=by simp[LL]
 have hmax:(if a.length<b.length then(b.length:Int) else(a.length:Int))=((max a.length b.length:Nat):Int):=by split<;>omega
 unfold wpS;simp only[LD];generalize eD k=ov,eF k (LL o)=oh,LL a=as',LL b=bs,max a.length b.length=mm at*;simp[wpB,f90,vN,ES,hmax,hc]
theorem JH (a b o:List Nat)(k s:Nat)(hk:k<=1000000000)(la:a.length<=1000000000)(lb:b.length<=1000000000)(ha:bY a)(hb:bY b)(ho:o.length=k)(hs:s<4294967296)(hc:k<=max a.length b.length) :
  EX E0 80 wpB (wpS a b o k s .u)=some (.norm,wpS a b (o++[(bH a k+bH b k+s) % 4294967296]) (k+1) ((bH a k+bH b k+s) / 4294967296) .u):=by
 have h1:=fun m=>xg m a la k hk ha
 have h2:=fun m=>xg m b lb k hk hb
 have xa:=dx ha k;have xb:=dx hb k;have vN:(LL a).length=a.length:=by simp[LL]
 have ES:(LL b).length=b.length:=by simp[LL]
 have hmax:(if a.length<b.length then(b.length:Int) else(a.length:Int))=((max a.length b.length:Nat):Int):=by split<;>omega
 simp only[LD]at h1 h2;have aW:ak .i64 ((k:Int)+1)=(k:Int)+1:=wrap_i64 ae;generalize bH a k=x,bH b k=y at*;have w1:ak .u64 ((x:Int)+(y:Int))=(x:Int)+(y:Int):=wrap_u64 ae;have w2:ak .u64 ((x:Int)+(y:Int)+(s:Int))=(x:Int)+(y:Int)+(s:Int):=wrap_u64 ae;have w3:ak .u32 ((x:Int)+(y:Int)+(s:Int))=((x:Int)+(y:Int)+(s:Int)) % 4294967296:=dU _;have w4:Int.fdiv ((x:Int)+(y:Int)+(s:Int)) 4294967296=((x:Int)+(y:Int)+(s:Int)) / 4294967296:=Ql2 _ ae;have Tv:LL (o++[(x+y+s) % 4294967296])=LL o++[.v (.int .u32 (((x:Int)+(y:Int)+(s:Int)) % 4294967296))]:=by simp[LL]
 have hol:(LL o).length=k:=by simp[LL,ho]
 have hv1:eD (k+1)=.ls (.loc 0) k 1 0 (k+1):=by simp[eD]
 have E5:∀ l,eF (k+1) l=[.row k 1 l]:=by intro l;simp[eF]
 have hm1:(k+1)*4<=most:=by simp[most];omega
 have hm2:k+1<=most:=by simp[most];omega
 have htk:(LL o).take k=LL o:=Qe1 ae;have hk1:((k+1:Nat):Int)=(k:Int)+1:=ae;have hs1:(((x+y+s) / 4294967296:Nat):Int)=((x:Int)+(y:Int)+(s:Int)) / 4294967296:=ae;unfold wpS;rw[Tv,hv1,E5,hk1,hs1]
 by_cases hk0:k=0
 ·have hv:eD k=.d (.n 1):=by simp[eD,hk0]
  have hh:∀ l,eF k l=[]:=by intro l;simp[eF,hk0]
  have ho0:o=[]:=Qo1 ae;have hLo:LL o=[]:=by rw[ho0];rfl
  have hm3:1*4<=most:=by simp[most]
  have hm4:1<=most:=by simp[most]
  have hvk:FV.ls (.loc 0) 0 1 0 1=FV.ls (.loc 0) k 1 0 (k+1):=by rw[hk0]
  have hhk:∀ l,ah.row 0 1 l=ah.row k 1 l:=by intro l;rw[hk0]
  rw[hv,hh,hLo,<-hvk,<-hhk];simp only[LD];generalize LL a=as',LL b=bs,max a.length b.length=mm at*;simp[IntKind.bits,wpB,f90,vN,ES,hmax,hc,h1,h2,aW,w1,w2,w3,w4,hm4,most]
 ·have hv:eD k=.ls (.loc 0) (k-1) 1 0 k:=by simp[eD,hk0]
  have hh:∀ l,eF k l=[.row (k-1) 1 l]:=by intro l;simp[eF,hk0]
  have hk2:k-1+1=k:=ae;rw[hv,hh];simp only[LD];generalize LL a=as',LL b=bs,max a.length b.length=mm at*;simp[IntKind.bits,wpB,f90,vN,ES,hmax,hc,h1,h2,aW,w1,w2,w3,w4,hm1,hm2,hol,htk,hk2]
theorem MF (a b:List Nat)(la:a.length<=100000000)(lb:b.length<=100000000)(ha:bY a)(hb:bY b) :
  ∃ r,Ex E0 (.loop wpB) (wpS a b [] 0 0 .u) r/\∃ o s,bY o/\val o=val a+val b/\o.length=max a.length b.length+1/\r=(.exit 0,wpS a b o o.length s (dB false)):=by
 refine Ex.inv (S:=fun t:List Nat × Nat × Nat=>wpS a b t.1 t.2.1 t.2.2 .u) (fun t=>max a.length b.length+2-t.2.1) (plI a b) _ ?_ ([],0,0) ?_
 ·rintro⟨o,k,s⟩ ⟨h1,h2,h3,h4,h5,h6⟩;simp only at h1 h2 h3 h4 h5 h6;have xa:=dx ha k;have xb:=dx hb k
  by_cases hc:k<=max a.length b.length
  ·have hr:=JH a b o k s ae ae ae ha hb h1 h4 hc;refine .inl ⟨(o++[(bH a k+bH b k+s) % 4294967296],k+1,(bH a k+bH b k+s) / 4294967296),Ex.of hr,by simp only;omega,?_,?_,?_,?_,?_,?_⟩
   ·simp[h1]
   ·simp only;omega
   ·intro he;simp only at he ⊢;have e1:bH a k=0:=by unfold bH;rw[Qp1 ae];rfl
    have e2:bH b k=0:=by unfold bH;rw[Qp1 ae];rfl
    rw[e1,e2];omega
   ·simp only;omega
   ·exact iM h5 (fun x hx=>by simp at hx;subst hx;exact Qu1 _ ae)
   ·simp only;rw[val_append,h1,Qn2,<-h6,jo a k,jo b k];have hv:val [(bH a k+bH b k+s) % 4294967296]=(bH a k+bH b k+s) % 4294967296:=by simp[val]
    rw[hv];exact FB ae
  ·have hr:=QI a b o k s hc;refine .inr ⟨_,Ex.of hr,aC,o,s,h5,?_,ae,by rw[h1]⟩;rw[iN ae,iN ae]at h6;have:s=0:=h3 ae;subst this;simpa using h6
 ·refine⟨rfl,aC,?_,aC,?_,?_⟩
  ·simp
  ·intro x hx;cases hx
  ·simp[val]
theorem Cj (a b:List Nat)(la:a.length<=100000000)(lb:b.length<=100000000)(ha:bY a)(hb:bY b) :
  Ca E0 90 [.d (LD a),.d (LD b)] (.d (LD (enc (val a+val b))),none):=by
 obtain⟨r,hl,o,s,ho,hv,hol,rfl⟩:=MF a b la lb ha hb;obtain⟨n0,hc⟩:=(xe o ae).get;rw[dm ho,hv]at hc;have hlo:(LL o).length=o.length:=by simp[LL]
 have htk:(LL o).take o.length=LL o:=Qe1 ae;have hv1:eD o.length=.ls (.loc 0) (o.length-1) 1 0 o.length:=by unfold eD;rw[if_neg ae]
 have E5:∀ l,eF o.length l=[.row (o.length-1) 1 l]:=by intro l;unfold eF;rw[if_neg ae]
 generalize enc (val a+val b)=res at*;refine Ca.body (o:=.ret) (st1:=(st0 (.u::.u::.d (LD res)::n_) [.h_ (o.length-1) 1 (LL o)])) rfl (aO 90 f90:E0.fn _=_) rfl ?_ (by intro id h;cases h) ?_
 ·show Ex E0 (.seq f90.body.l (.seq f90.body.r.l (.seq f90.body.r.r.l (.seq (.seq f90.body.r.r.r.l.l (.block 0 (.loop wpB))) f90.body.r.r.r.r)))) _ _;refine Ex.seq (st1:=(st0 (.d (LD a)::.d (LD b)::uV) [])) (Ex.of (n:=40) ?_)
   (Ex.seq (st1:=(st0 (.d (LD a)::.d (LD b)::.u::.d (.n 1)::wW) [])) (Ex.of (n:=40) ?_)
   (Ex.seq (st1:=(st0 [.d (LD a),.d (LD b),.u,.d (.n 1),.d (.v (.int .u64 0)),.u,.u,.u] [])) (Ex.of (n:=40) ?_)
   (Ex.seq (Ex.seq (st1:=wpS a b [] 0 0 .u) (Ex.of (n:=40) ?_) hl.block) (Ex.of (n:=n0+40) ?_))))
  ·simp[f90]
  ·simp[f90]
  ·simp[f90]
  ·simp[wpS,eD,eF,f90]
  ·unfold wpS;clear hl;simp only[LD]at hc ⊢;rw[hv1,E5];generalize o.length-1=m,LL o=es at*;generalize o.length=l at*;simp[ah.view,f90,hlo,htk,hc]
 ·simp[f90,LD]
def wmB:aF:=f92.body.r.r.r.l.r.bl.lp
def Tx (a b o:List Nat)(k s:Nat)(t:FV):St:=(st0 [.d (LD a),.d (LD b),.u,eD k,.d (.v (.int .u64 s)),dI k,.u,t] (eF k (LL o)))
theorem MG (a b o:List Nat)(k s:Nat)(hc:¬ k<a.length):EX E0 60 wmB (Tx a b o k s .u)=some (.exit 0,Tx a b o k s (dB false)):=by
 have vN:(LL a).length=a.length:=by simp[LL]
 unfold Tx;simp only[LD];generalize eD k=ov,eF k (LL o)=oh,LL a=as',LL b=bs at*;simp[wmB,f92,vN,hc]
theorem Ho (a b o:List Nat)(k s s' d:Nat)(hk:k<a.length)(la:a.length<=1000000000)(lb:b.length<=1000000000)(ha:bY a)(hb:bY b)(ho:o.length=k)(hs:s<=1)
  (hd:d<4294967296) (hs':s'<=1) (hdig:bH a k+4294967296*s'=d+bH b k+s) :
  EX E0 80 wmB (Tx a b o k s .u)=some (.norm,Tx a b (o++[d]) (k+1) s' .u):=by
 have h1:=fun m=>xg m a la k ae ha
 have h2:=fun m=>xg m b lb k ae hb
 have xa:=dx ha k;have xb:=dx hb k;have vN:(LL a).length=a.length:=by simp[LL]
 simp only[LD]at h1 h2;have aW:ak .i64 ((k:Int)+1)=(k:Int)+1:=wrap_i64 ae;generalize bH a k=x,bH b k=y at*;have w1:ak .u64 ((x:Int)+4294967296)=(x:Int)+4294967296:=wrap_u64 ae;have w2:ak .u64 ((x:Int)+4294967296-(y:Int))=(x:Int)+4294967296-(y:Int):=wrap_u64 ae;obtain⟨Z,hZ⟩:∃ Z:Nat,(Z:Int)=(x:Int)+4294967296-(y:Int)-(s:Int):=⟨x+4294967296-y-s,ae⟩
 have w3:ak .u64 ((x:Int)+4294967296-(y:Int)-(s:Int))=(Z:Int):=by rw[wrap_u64 ae];omega
 have w4:ak .u32 (Z:Int)=(d:Int):=by rw[dU];omega
 have w5:Int.fdiv (Z:Int) 4294967296=1-(s':Int):=by rw[Ql2 _ ae];omega
 have w6:ak .u64 (1-(1-(s':Int)))=(s':Int):=by rw[wrap_u64 ae];omega
 clear hZ;have Tv:LL (o++[d])=LL o++[.v (.int .u32 (d:Int))]:=by simp[LL]
 have hol:(LL o).length=k:=by simp[LL,ho]
 have hv1:eD (k+1)=.ls (.loc 0) k 1 0 (k+1):=by simp[eD]
 have E5:∀ l,eF (k+1) l=[.row k 1 l]:=by intro l;simp[eF]
 have hm1:(k+1)*4<=most:=by simp[most];omega
 have hm2:k+1<=most:=by simp[most];omega
 have htk:(LL o).take k=LL o:=Qe1 ae;have hk1:((k+1:Nat):Int)=(k:Int)+1:=ae;unfold Tx;rw[Tv,hv1,E5,hk1]
 by_cases hk0:k=0
 ·have hv:eD k=.d (.n 1):=by simp[eD,hk0]
  have hh:∀ l,eF k l=[]:=by intro l;simp[eF,hk0]
  have ho0:o=[]:=Qo1 ae;have hLo:LL o=[]:=by rw[ho0];rfl
  have hm3:1*4<=most:=by simp[most]
  have hm4:1<=most:=by simp[most]
  have hvk:FV.ls (.loc 0) 0 1 0 1=FV.ls (.loc 0) k 1 0 (k+1):=by rw[hk0]
  have hhk:∀ l,ah.row 0 1 l=ah.row k 1 l:=by intro l;rw[hk0]
  rw[hv,hh,hLo,<-hvk,<-hhk];simp only[LD];generalize LL a=as',LL b=bs,a.length=mm at*;simp[IntKind.bits,wmB,f92,vN,hk,h1,h2,aW,w1,w2,w3,w4,w5,w6,hm4,most]
 ·have hv:eD k=.ls (.loc 0) (k-1) 1 0 k:=by simp[eD,hk0]
  have hh:∀ l,eF k l=[.row (k-1) 1 l]:=by intro l;simp[eF,hk0]
  have hk2:k-1+1=k:=ae;rw[hv,hh];simp only[LD];generalize LL a=as',LL b=bs,a.length=mm at*;simp[IntKind.bits,wmB,f92,vN,hk,h1,h2,aW,w1,w2,w3,w4,w5,w6,hm1,hm2,hol,htk,hk2]
theorem JI (a b:List Nat)(la:a.length<=100000000)(lb:b.length<=a.length)(ha:bY a)(hb:bY b)(hab:val b<=val a) :
  ∃ r,Ex E0 (.loop wmB) (Tx a b [] 0 0 .u) r/\∃ o,bY o/\val o=val a-val b/\o.length=a.length/\r=(.exit 0,Tx a b o a.length 0 (dB false)):=by
 refine Ex.inv (S:=fun t:List Nat × Nat=>Tx a b t.1 t.1.length t.2 .u) (fun t=>a.length-t.1.length) (miI a b) _ ?_ ([],0) ?_
 ·rintro⟨o,s⟩ ⟨h1,h2,h3,h4⟩;simp only at h1 h2 h3 h4;have xa:=dx ha o.length;have xb:=dx hb o.length
  by_cases hk:o.length<a.length
  ·obtain⟨d,s',hd,hs',hdig⟩:∃ d s',d<4294967296/\s'<=1/\bH a o.length+4294967296*s'=d+bH b o.length+s:=by
    by_cases hc:bH b o.length+s<=bH a o.length
    ·exact⟨bH a o.length-(bH b o.length+s),0,ae,ae,ae⟩
    ·exact⟨bH a o.length+4294967296-(bH b o.length+s),1,ae,ae,ae⟩
   have hr:=Ho a b o o.length s s' d hk ae ae ha hb rfl h2 hd hs' hdig;refine .inl ⟨(o++[d],s'),?_,?_,?_,?_,?_,?_⟩
   ·simp only[Qb0,Qf2,Qs0];exact Ex.of hr
   ·simp only[Qb0,Qf2,Qs0];omega
   ·simp only[Qb0,Qf2,Qs0];omega
   ·exact hs'
   ·exact iM h3 (fun x hx=>by simp at hx;subst hx;exact hd)
   ·simp only[Qb0,Qf2,Qs0,Qz2];rw[eU,eU,val_append,Qn2];have hv:val [d]=d:=by simp[val]
    rw[hv];exact BP h4 hdig
  ·have he:o.length=a.length:=ae;rw[he,gF (Qd2 _),gF lb]at h4;have hlt:=oM h3;rw[he]at hlt;have hs0:s=0:=by
    rcases Qg0 s 1 with h|h
    ·omega
    ·have:s=1:=ae;subst this;generalize 4294967296 ^ a.length=p at*;omega
   subst hs0;refine .inr ⟨_,?_,?_,o,h3,ae,he,rfl⟩
   ·simp only[he];exact Ex.of (MG a b o a.length 0 ae)
   ·simp
 ·refine⟨aC,aC,?_,?_⟩
  ·intro x hx;cases hx
  ·simp[val,cu]
theorem FI (a b:List Nat)(la:a.length<=100000000)(lb:b.length<=a.length)(ha:bY a)(hb:bY b)(hab:val b<=val a) :
  Ca E0 92 [.d (LD a),.d (LD b)] (.d (LD (enc (val a-val b))),none):=by
 obtain⟨r,hl,o,ho,hv,hol,rfl⟩:=JI a b la lb ha hb hab;obtain⟨n0,hc⟩:=(xe o ae).get;rw[dm ho,hv]at hc;have hlo:(LL o).length=a.length:=by simp[LL,hol]
 have htk:(LL o).take a.length=LL o:=Qe1 ae;generalize enc (val a-val b)=res at*;refine Ca.body (o:=.ret) (st1:=(st0 (.u::.u::.d (LD res)::n_) (if a.length=0 then [] else [.h_ (a.length-1) 1 (LL o)]))) rfl (aO 92 f92:E0.fn _=_) rfl ?_ (by intro id h;cases h) ?_
 ·show Ex E0 (.seq f92.body.l (.seq f92.body.r.l (.seq f92.body.r.r.l (.seq (.seq f92.body.r.r.r.l.l (.block 0 (.loop wmB))) f92.body.r.r.r.r)))) _ _;refine Ex.seq (st1:=(st0 (.d (LD a)::.d (LD b)::uV) [])) (Ex.of (n:=40) ?_)
   (Ex.seq (st1:=(st0 (.d (LD a)::.d (LD b)::.u::.d (.n 1)::wW) [])) (Ex.of (n:=40) ?_)
   (Ex.seq (st1:=(st0 [.d (LD a),.d (LD b),.u,.d (.n 1),.d (.v (.int .u64 0)),.u,.u,.u] [])) (Ex.of (n:=40) ?_)
   (Ex.seq (Ex.seq (st1:=Tx a b [] 0 0 .u) (Ex.of (n:=40) ?_) hl.block) (Ex.of (n:=n0+40) ?_))))
  ·simp[f92]
  ·simp[f92]
  ·simp[f92]
  ·simp[Tx,eD,eF,f92]
  ·unfold Tx;clear hl
   by_cases h0:a.length=0
   ·have hLo:LL o=[]:=Qo1 ae;have ho0:o=[]:=Qo1 ae;have hv1:eD a.length=.d (.n 1):=by unfold eD;rw[if_pos h0]
    have E5:∀ l,eF a.length l=[]:=by intro l;unfold eF;rw[if_pos h0]
    rw[if_pos h0,hv1,E5];rw[ho0]at hc;simp only[LD,LL,Qc2]at hc ⊢;generalize List.map (fun(x:Nat)=>D.v (Value.int IntKind.u32 (x:Int))) res=rs at*;simp[f92,hc]
   ·have hv1:eD a.length=.ls (.loc 0) (a.length-1) 1 0 a.length:=by unfold eD;rw[if_neg h0]
    have E5:∀ l,eF a.length l=[.row (a.length-1) 1 l]:=by intro l;unfold eF;rw[if_neg h0]
    rw[if_neg h0,hv1,E5];simp only[LD]at hc ⊢;generalize a.length-1=m,LL o=es at*;generalize a.length=l at*;simp[ah.view,f92,hlo,htk,hc]
 ·simp[f92,LD]
def JJ:aF:=f87.body.r.r.l.r.bl.lp
def wjB:aF:=JJ.r.l.bl.r.l.r.bl.lp
def UH (a b:List Nat)(es:List D)(n i c k:Nat)(t:FV):St:=(st0 [.d (LD a),.d (LD b),.u,.ls (.loc 0) 0 1 0 n,dI i,.d (.v (.int .u64 c)),dI k,.u,.u,t] [.row 0 1 es])
theorem adJ (a b:List Nat)(es:List D)(n i c:Nat):EX E0 60 wjB (UH a b es n i c b.length .u)=some (.exit 2,UH a b es n i c b.length (dB false)):=by
 have ES:(LL b).length=b.length:=by simp[LL]
 unfold UH;simp only[LD];generalize LL a=as',LL b=bs,b.length=lb at*;simp[wjB,JJ,f87,ES]
theorem UI (a b:List Nat)(es:List D)(n i c k x y p:Nat)(hx:a[i]?=some x)(hy:b[k]?=some y)(hp:es[i+k]?=some (.v (.int .u32 (p:Int))))(hn:es.length=n)
  (hxl:x<4294967296) (hyl:y<4294967296) (hpl:p<4294967296) (hcl:c<4294967296) (hi:i<=1000000000) (hk:k<=1000000000) :
  EX E0 90 wjB (UH a b es n i c k .u)=some (.norm,UH a b (es.set (i+k) (.v (.int .u32 (((x*y+p+c) % 4294967296:Nat):Int)))) n i ((x*y+p+c) / 4294967296) (k+1) .u):=by
 have hxa:(LL a)[i]?=some (.v (.int .u32 (x:Int))):=by simp[LL,hx]
 have hyb:(LL b)[k]?=some (.v (.int .u32 (y:Int))):=by simp[LL,hy]
 have ha:i<(LL a).length:=by simpa[LL] using(aT hx)
 have hb:k<(LL b).length:=by simpa[LL] using(aT hy)
 have hpn:i+k<n:=by rw[<-hn];exact(aT hp)
 have aW:ak .i64 ((k:Int)+1)=(k:Int)+1:=wrap_i64 ae;have hk1:((k+1:Nat):Int)=(k:Int)+1:=ae;have hik:ak .i64 ((i:Int)+(k:Int))=((i+k:Nat):Int):=by rw[wrap_i64 ae];omega
 have w1:ak .u64 (x:Int)=(x:Int):=wrap_u64 ae;have w2:ak .u64 (y:Int)=(y:Int):=wrap_u64 ae;have w3:ak .u64 (p:Int)=(p:Int):=wrap_u64 ae;have hm:x*y<=4294967295*4294967295:=Q22 ae ae;have hxy:(x:Int)*(y:Int)=((x*y:Nat):Int):=aC;obtain⟨M,hM⟩:∃ M,M=x*y:=⟨_,rfl⟩
 rw[<-hM]at hxy hm ⊢;have w4:ak .u64 ((x:Int)*(y:Int))=(M:Int):=by rw[hxy];exact wrap_u64 ae
 have w5:ak .u64 ((M:Int)+(p:Int))=((M+p:Nat):Int):=by rw[wrap_u64 ae];omega
 have w6:ak .u64 (((M+p:Nat):Int)+(c:Int))=((M+p+c:Nat):Int):=by rw[wrap_u64 ae];omega
 obtain⟨T,hT⟩:∃ T,T=M+p+c:=⟨_,rfl⟩
 rw[<-hT]at w6 ⊢;have w7:ak .u32 (T:Int)=((T % 4294967296:Nat):Int):=by rw[dU];omega
 have w8:Int.fdiv (T:Int) 4294967296=((T / 4294967296:Nat):Int):=by rw[Ql2 _ ae];omega
 clear hT hM hxy hm;unfold UH;rw[hk1];generalize T % 4294967296=d,T / 4294967296=c' at*;simp only[LD];generalize LL a=as',LL b=bs,i+k=j,M+p=Mp at*;have i1:=idx hxa;have i2:=idx hyb;have i3:=idx hp;have hlt:j<es.length:=ae;simp[IntKind.bits,wjB,JJ,f87,ha,hb,hxa,hyb,hp,i1,i2,i3,hpn,hn,aW,hik,w1,w2,w3,w4,w5,w6,w7,w8]
theorem QJ (P:List Nat)(m j d:Nat)(hj:j<P.length):(LL (row0 P m)).set j (.v (.int .u32 (d:Int)))=LL (row0 (P.set j d) m):=by
 simp only[LL,row0,Qn0];rw[Qq2 _ _ (by simpa using hj),Q51]
theorem UJ (P:List Nat)(m j:Nat)(hj:j<P.length):(LL (row0 P m))[j]?=some (.v (.int .u32 ((bH P j:Nat):Int))):=by
 simp only[LL,row0,Qn0];rw[Qa0 (by simpa using hj)];simp[bH,Qa1 hj]
theorem ZT {vP vP' Pj p d c c' x y V vb B:Nat}(h1:vP'+Pj*p=vP+Pj*d)(h2:x*y+p+c=d+B*c')(h3:vP+Pj*c=V):vP'+Pj*B*c'=V+Pj*(x*y):=by
 have:Pj*(x*y)+Pj*p+Pj*c=Pj*d+Pj*B*c':=by rw[Q21,<-Xb2,<-Xb2,h2,Xb2]
 omega
theorem ZU (a b P:List Nat)(m i x:Nat)(hx:a[i]?=some x)(la:a.length<=100000000)(lb:b.length<=100000000)(ha:bY a)(hb:bY b)(hP:bY P)(hl:P.length=i+b.length)(hv:val P=cu a i*val b) :
  ∃ r,Ex E0 (.loop wjB) (UH a b (LL (row0 P m)) (i+b.length+m) i 0 0 .u) r /\
   ∃ Q c,bY Q/\Q.length=i+b.length/\c<4294967296/\val Q+4294967296 ^ (i+b.length)*c=cu a (i+1)*val b/\r=(.exit 2,UH a b (LL (row0 Q m)) (i+b.length+m) i c b.length (dB false)):=by
 have hil:i<a.length:=(aT hx)
 have hxl:x<4294967296:=ha _ (Qa2 hx);have hxe:bH a i=x:=by simp[bH,hx]
 refine Ex.inv (S:=fun t:List Nat × Nat × Nat=>UH a b (LL (row0 t.1 m)) (i+b.length+m) i t.2.1 t.2.2 .u) (fun t=>b.length-t.2.2)
  (fun t=>bY t.1/\t.1.length=i+b.length/\t.2.1<4294967296/\t.2.2<=b.length/\val t.1+4294967296 ^ (i+t.2.2)*t.2.1=val P+4294967296 ^ i*(x*cu b t.2.2)) _ ?_ (P,0,0) ?_
 ·rintro⟨Q,c,k⟩ ⟨h1,h2,h3,h4,h5⟩;simp only at h1 h2 h3 h4 h5
  by_cases hk:k<b.length
  ·have hy:b[k]?=some (b[k]'hk):=Qa1 hk;have hye:bH b k=b[k]'hk:=by simp[bH,hy]
   have hyl:=hb _ (Qi0 hk);generalize b[k]'hk=y at*;have hpl:bH Q (i+k)<4294967296:=dx h1 _;have hr:=UI a b (LL (row0 Q m)) (i+b.length+m) i c k x y (bH Q (i+k)) hx hy (UJ Q m _ ae) (by rw[rZ];omega) hxl hyl hpl h3 ae ae;rw[QJ _ _ _ _ ae]at hr;have hm:x*y<=4294967295*4294967295:=Q22 ae ae;refine .inl ⟨(Q.set (i+k) ((x*y+bH Q (i+k)+c) % 4294967296),(x*y+bH Q (i+k)+c) / 4294967296,k+1),Ex.of hr,by simp only;omega,G7 h1 (Qu1 _ ae),by simp[h2],by simp only;omega,by simp only;omega,?_⟩;simp only;have hs:=Bf Q (i+k) ((x*y+bH Q (i+k)+c) % 4294967296) ae;have:=ZT (vb:=0) hs (show x*y+bH Q (i+k)+c=(x*y+bH Q (i+k)+c) % 4294967296+4294967296*((x*y+bH Q (i+k)+c) / 4294967296) by omega) h5;rw[<-Qr0,Qn2,this,eU,hye,Xb2,Xb2,<-Qr0]
   congr 1
   rw[Qz1];generalize 4294967296 ^ i=A;generalize 4294967296 ^ k=C;grind
  ·have hke:k=b.length:=ae;subst hke;rw[gF (Qd2 _)]at h5;refine .inr ⟨_,Ex.of (adJ a b (LL (row0 Q m)) (i+b.length+m) i c),aC,Q,c,h1,h2,h3,?_,rfl⟩;rw[h5,hv,eU,hxe,Qq1]
   congr 1
   rw[Q21]
 ·refine⟨hP,hl,aC,aC,?_⟩;simp[cu,val]
def LX (a b:List Nat)(es:List D)(n i:Nat)(t:FV):St:=(st0 [.d (LD a),.d (LD b),.u,.ls (.loc 0) 0 1 0 n,dI i,.u,.u,.u,t,.u] [.row 0 1 es])
theorem adK (a b:List Nat)(es:List D)(n:Nat):EX E0 60 JJ (LX a b es n a.length .u)=some (.exit 0,LX a b es n a.length (dB false)):=by
 have vN:(LL a).length=a.length:=by simp[LL]
 unfold LX;simp only[LD];generalize LL a=as',LL b=bs,a.length=la at*;simp[JJ,f87,vN]
theorem ZV (a b:List Nat)(la:a.length<=100000000)(lb:b.length<=100000000)(ha:bY a)(hb:bY b) :
  ∃ r,Ex E0 (.loop JJ) (LX a b (LL (row0 [] (a.length+b.length))) (a.length+b.length) 0 .u) r /\
   ∃ O,bY O/\O.length=a.length+b.length/\val O=val a*val b/\r=(.exit 0,LX a b (LL O) (a.length+b.length) a.length (dB false)):=by
 have e:LL (row0 [] (a.length+b.length))=LL (row0 (List.replicate b.length 0) (a.length-0)):=by
  simp only[row0,Qv2,X21];rw[List.replicate_append_replicate,Xp2]
 rw[e];refine Ex.inv (S:=fun t:List Nat × Nat=>LX a b (LL (row0 t.1 (a.length-t.2))) (a.length+b.length) t.2 .u) (fun t=>a.length-t.2)
  (fun t=>t.2<=a.length/\t.1.length=t.2+b.length/\bY t.1/\val t.1=cu a t.2*val b) _ ?_ (List.replicate b.length 0,0) ?_
 ·rintro⟨P,i⟩ ⟨h1,h2,h3,h4⟩;simp only at h1 h2 h3 h4
  by_cases hi:i<a.length
  ·obtain⟨m,hm⟩:∃ m,a.length-i=m+1:=⟨a.length-i-1,ae⟩
   have hx:a[i]?=some (a[i]'hi):=Qa1 hi;obtain⟨r,hr,Q,c,g1,g2,g3,g4,rfl⟩:=ZU a b P (m+1) i _ hx la lb ha hb h3 h2 h4;rw[show i+b.length+(m+1)=a.length+b.length by omega]at hr;refine .inl ⟨(Q++[c],i+1),?_,by simp only;omega,by simp only;omega,by simp[g2];omega,iM g1 (fun y hy=>by simp at hy;subst hy;exact g3),?_⟩
   ·simp only[hm,show a.length-(i+1)=m by omega];have vN:(LL a).length=a.length:=by simp[LL]
    have ES:(LL b).length=b.length:=by simp[LL]
    have aW:ak .i64 ((i:Int)+1)=(i:Int)+1:=wrap_i64 ae;have hk1:((i+1:Nat):Int)=(i:Int)+1:=ae;have hib:ak .i64 ((i:Int)+(b.length:Int))=((i+b.length:Nat):Int):=by rw[wrap_i64 ae];omega
    have w1:ak .u32 (c:Int)=(c:Int):=wrap_u32 ae;have hz:=OV Q m;have hset:=Jm Q m c;rw[g2]at hz hset;have hle:(LL (row0 Q (m+1))).length=a.length+b.length:=by rw[rZ];omega
    have hlt:i+b.length<a.length+b.length:=ae;rw[<-hset];clear hset;show Ex E0 (.seq JJ.l (.seq (.block 1 (.seq JJ.r.l.bl.l (.seq (.seq JJ.r.l.bl.r.l.l (.block 2 (.loop wjB))) JJ.r.l.bl.r.r))) JJ.r.r)) _ _;refine Ex.seq (st1:=LX a b (LL (row0 P (m+1))) (a.length+b.length) i (dB true)) (Ex.of (n:=40) ?_)
     (Ex.seq (st1:=LX a b ((LL (row0 Q (m+1))).set (i+b.length) (.v (.int .u32 (c:Int)))) (a.length+b.length) i .u)
      (Ex.eZ (Ex.seq (st1:={LX a b (LL (row0 P (m+1))) (a.length+b.length) i .u with vars:=(.d (LD a)::.d (LD b)::.u::.ls (.loc 0) 0 1 0 (a.length+b.length)::dI i::.d (.v (.int .u64 0))::wW)}) (Ex.of (n:=40) ?_)
       (Ex.seq (Ex.seq (Ex.of (n:=40) ?_) hr.block) (Ex.of (n:=40) ?_)))) (Ex.of (n:=40) ?_))
    ·unfold LX;simp only[LD];generalize LL a=as' at*;generalize LL b=bs at*;generalize LL (row0 P (m+1))=es at*;simp[JJ,f87,vN,hi]
    ·unfold LX;simp only[LD];generalize LL a=as' at*;generalize LL b=bs at*;generalize LL (row0 P (m+1))=es at*;simp[JJ,f87]
    ·unfold LX UH;simp only[LD];generalize LL a=as' at*;generalize LL b=bs at*;generalize LL (row0 P (m+1))=es at*;simp[JJ,f87]
    ·unfold LX UH;simp only[LD];generalize LL a=as' at*;generalize LL b=bs at*;generalize LL (row0 Q (m+1))=es at*;have hz2:=idx hz;generalize i+b.length=j at*;generalize b.length=lb' at*;generalize a.length+lb'=n at*;simp[JJ,f87,ES,hib,hz,hz2,hle,hlt,w1]
    ·unfold LX;simp only[LD];rw[hk1];generalize LL a=as' at*;generalize LL b=bs at*;generalize List.set _ _ _=es at*;simp[JJ,f87,aW]
   ·simp only;rw[val_append,g2,<-g4];simp[val]
  ·have hi2:i=a.length:=ae;subst hi2;rw[gF (Qd2 _)]at h4;refine .inr ⟨_,?_,?_,P,h3,h2,h4,rfl⟩
   ·simp only[Xi0,FC];exact Ex.of (adK a b (LL P) (a.length+b.length))
   ·simp
 ·refine⟨aC,aC,?_,?_⟩
  ·intro x hx;have:=Xf2 hx;omega
  ·have:∀ m,val (List.replicate m 0)=0:=by
    intro m
    induction m with
    | zero=>rfl
    | succ m ih=>rw[Xk1,val,ih]
   simp[cu,val,this]
theorem QK (a b:List Nat)(la:a.length<=100000000)(lb:b.length<=100000000)(ha:bY a)(hb:bY b) :
  Ca E0 87 [.d (LD a),.d (LD b)] (.d (LD (enc (val a*val b))),none):=by
 obtain⟨r,hl,o,ho,hol,hv,rfl⟩:=ZV a b la lb ha hb;obtain⟨n0,hc⟩:=(xe o ae).get;rw[dm ho,hv]at hc;have hlo:(LL o).length=a.length+b.length:=by simp[LL,hol]
 have vN:(LL a).length=a.length:=by simp[LL]
 have ES:(LL b).length=b.length:=by simp[LL]
 have htk:(LL o).take (a.length+b.length)=LL o:=Qe1 ae;have hz:=wX (a.length+b.length);generalize enc (val a*val b)=res at*;refine Ca.body (o:=.ret) (st1:=(st0 (.u::.u::.d (LD res)::rX) [.h_ 0 1 (LL o)])) rfl (aO 87 f87:E0.fn _=_) rfl ?_ (by intro id h;cases h) ?_
 ·show Ex E0 (.seq f87.body.l (.seq f87.body.r.l (.seq (.seq f87.body.r.r.l.l (.block 0 (.loop JJ))) f87.body.r.r.r))) _ _;refine Ex.seq (st1:=(st0 (.d (LD a)::.d (LD b)::zW) [])) (Ex.of (n:=40) ?_)
   (Ex.seq (st1:=(st0 (.d (LD a)::.d (LD b)::.u::.ls (.loc 0) 0 1 0 (a.length+b.length)::uV) [.row 0 1 (LL (row0 [] (a.length+b.length)))])) (Ex.of (n:=40) ?_)
   (Ex.seq (Ex.seq (Ex.of (n:=40) ?_) hl.block) (Ex.of (n:=n0+40) ?_)))
  ·simp[f87]
  ·have hw:ak .i64 ((a.length:Int)+(b.length:Int))=((a.length+b.length:Nat):Int):=by rw[wrap_i64 ae];omega
   have hmb:a.length+b.length<=200000000:=ae;rw[hz];generalize a.length+b.length=m at*;have hm1:(m:Int)*4<=1099511627776:=ae;have hm2:(m:Int)<=1099511627776:=ae;simp[f87,LD,vN,ES,hw,hm1,hm2,most]
  ·unfold LX;simp[f87,LD]
  ·unfold LX;simp only[LD]at hc ⊢;clear hl;generalize LL o=es,a.length+b.length=m at*;simp[ah.view,f87,hlo,htk,hc]
 ·simp[f87,LD]
theorem ZW {l:List Nat}(h:bY l)(n:Nat):bH l n=val l / 4294967296 ^ n % 4294967296:=by
 have h1:=yS l n;have h2:=pE h n;have h3:=jo l n;have h4:=dx h n;have h5:val l / 4294967296 ^ n=val (l.drop n):=by
  rw[h1,X20 _ _ (Qt2 ae),Xa1 h2,Qz2]
 rw[h5,h3];omega
theorem and1 {x:Nat}(hx:x<4294967296):nY .u32 (x:Int) 1=((x % 2:Nat):Int):=by
 rw[Bo,<-cZ]
 change ak .u32 ((BitVec.ofInt 32 (x:Int) &&& BitVec.ofInt 32 1).toNat:Int)=_
 rw[BitVec.ofInt_natCast];have e1:BitVec.ofInt 32 1=BitVec.ofNat 32 1:=by rfl
 rw[e1,BitVec.toNat_and,BitVec.toNat_ofNat,BitVec.toNat_ofNat,Qx1 ae,Qx1 ae,Nat.and_one_is_mod];exact wrap_u32 ae
theorem ajM {s:Nat}(hs:s<32):Mh .u32 1 (s:Int)=((2 ^ s:Nat):Int):=by
 rw[Be,<-cZ];have h2:min ((s:Int).toNat) (IntKind.bits .u32)=s:=by simp[IntKind.bits];omega
 have h3:2 ^ s<4294967296:=by
  have:=X22 (a:=2) ae hs;simpa using this
 rw[h2,Int.one_mul];have e:((2:Int) ^ s)=((2 ^ s:Nat):Int):=aC;rw[e];generalize 2 ^ s=p at*;exact wrap_u32 ae
theorem or_bit {L s:Nat}(hL:L<4294967296)(hs:s<32)(h:L % 2 ^ (s+1)=0):BU .u32 (L:Int) ((2 ^ s:Nat):Int)=((L+2 ^ s:Nat):Int)/\L+2 ^ s<4294967296:=by
 have h3:2 ^ s<2 ^ (s+1):=X22 ae ae;have e1:L=(L / 2 ^ (s+1)) <<< (s+1):=by
  rw[Nat.shiftLeft_eq];have:=Xs1 L (2 ^ (s+1));rw[h,Q52,Qk2]at this;exact this.symm
 have e2:L ||| 2 ^ s=L+2 ^ s:=by
  have:=Xo0 h3 (L / 2 ^ (s+1));rw[<-e1]at this;exact this.symm
 have hp:2 ^ s<4294967296:=by
  have:=X22 (a:=2) ae hs;simpa using this
 have hor:L ||| 2 ^ s<2 ^ 32:=Nat.or_lt_two_pow (by simpa using hL) (by simpa using hp);have hlt:L+2 ^ s<4294967296:=by rw[<-e2];simpa using hor
 refine⟨?_,hlt⟩;rw[yP,<-cZ]
 change ak .u32 ((BitVec.ofInt 32 (L:Int) ||| BitVec.ofInt 32 ((2 ^ s:Nat):Int)).toNat:Int)=_
 rw[BitVec.ofInt_natCast,BitVec.ofInt_natCast,BitVec.toNat_or,BitVec.toNat_ofNat,BitVec.toNat_ofNat,Qx1 (by simpa using hL),Qx1 (by simpa using hp),e2];exact wrap_u32 ae
def FJ:aF:=f171.body.r.r.r.l.r.bl.lp
def okr (rv:FV)(r:Nat):Prop:=rv=.d (LD (enc r))\/(r=0/\rv=.d (.n 1))
def E8 (a b:List Nat)(es:List D)(n:Nat)(rv:FV)(i:Int)(t t8 t9:FV):St:=(st0 [.d (LD a),.d (LD b),.u,.u,.ls (.loc 0) 0 1 0 n,rv,dI i,t,t8,t9] [.row 0 1 es])
theorem adM (a b:List Nat)(es:List D)(n:Nat)(rv:FV):EX E0 60 FJ (E8 a b es n rv (-1) .u .u .u)=some (.exit 0,E8 a b es n rv (-1) (dB false) .u .u):=by
 unfold E8;simp only[LD];generalize LL a=as',LL b=bs at*;simp[FJ,f171]
theorem agV (a b:List Nat)(es:List D)(n:Nat)(rv:FV)(r:Nat)(i:Int)(h:okr rv r)(lr:sz r<=10000000) :
  Ex E0 FJ.r.l.bl.l (E8 a b es n rv i (dB true) .u .u) (.norm,E8 a b es n (.d (LD (enc (2*r)))) i .u .u .u):=by
 unfold sz at lr;obtain⟨N,t⟩:=(Cj (enc r) (enc r) ae ae (aV _) (aV _)).get;rw[a_,show r+r=2*r by omega]at t;refine Ex.of (n:=N+60) ?_;unfold E8;rcases h with rfl|⟨rfl,rfl⟩
 ·simp only[LD]at t ⊢;generalize LL a=as',LL b=bs,LL (enc r)=rs,LL (enc (2*r))=rs2 at*;simp[FJ,f171,t]
 ·simp only[dH,LD,LL,Qc2,Nat.mul_zero]at t ⊢;generalize List.map (fun(x:Nat)=>D.v (Value.int IntKind.u32 (x:Int))) a=as' at*;generalize List.map (fun(x:Nat)=>D.v (Value.int IntKind.u32 (x:Int))) b=bs at*;simp[FJ,f171,t]
theorem agW (a b:List Nat)(es:List D)(n:Nat)(r i x:Nat)(ha:a[i / 32]?=some x)(hx:x<4294967296)(hi:i<=1000000000)(lr:sz r<=10000000) :
  ∃ t8,Ex E0 FJ.r.l.bl.r.l (E8 a b es n (.d (LD (enc r))) i .u .u .u) (.norm,E8 a b es n (.d (LD (enc (r+x / 2 ^ (i % 32) % 2)))) i .u t8 .u):=by
 have hxa:(LL a)[i / 32]?=some (.v (.int .u32 (x:Int))):=by simp[LL,ha]
 have hla:i / 32<(LL a).length:=by simpa[LL] using(aT ha)
 have w1:Int.tdiv (i:Int) 32=((i / 32:Nat):Int):=by rw[Q72 ae];omega
 have w2:ak .i64 ((i / 32:Nat):Int)=((i / 32:Nat):Int):=wrap_i64 ae;have w3:Int.tmod (i:Int) 32=((i % 32:Nat):Int):=by rw[Xd2 ae];omega
 have w4:ak .u64 ((i % 32:Nat):Int)=((i % 32:Nat):Int):=wrap_u64 ae;have hs:i % 32<32:=Qu1 _ ae;generalize i % 32=s,i / 32=w at*;have w5:Int.fdiv (x:Int) (2 ^ (min s 32))=((x / 2 ^ s:Nat):Int):=by
  rw[show min s 32=s by omega,Ql2 _ (Int.pow_nonneg ae),X02];simp
 have hq:x / 2 ^ s<4294967296:=Xa2 (Xm0 _ _) hx;generalize x / 2 ^ s=y at*;have w6:=and1 hq;have hs0:¬ ((s:Int)<0):=ae;unfold sz at lr;have h2:y % 2=0\/y % 2=1:=ae;rcases h2 with h2|h2
 ·rw[h2]at w6 ⊢;refine⟨dB false,Ex.of (n:=60) ?_⟩;unfold E8;simp only[LD,Q52];generalize LL a=as',LL b=bs,LL (enc r)=rs at*;have i1:=idx hxa;simp[IntKind.bits,FJ,f171,hla,hxa,i1,w1,w2,w3,w4,w5,w6,hs0]
 ·rw[h2]at w6 ⊢;obtain⟨N,t⟩:=(Cj (enc r) [1] ae aC (aV _) (by intro z hz;simp at hz;omega)).get;rw[a_,show val [1]=1 by simp[val]]at t;refine⟨.u,Ex.of (n:=N+60) ?_⟩;unfold E8;simp only[LD,LL,Qe2,Qc2]at hxa hla t ⊢;generalize List.map (fun(x:Nat)=>D.v (Value.int IntKind.u32 (x:Int))) a=as' at*;generalize List.map (fun(x:Nat)=>D.v (Value.int IntKind.u32 (x:Int))) b=bs at*;generalize List.map (fun(x:Nat)=>D.v (Value.int IntKind.u32 (x:Int))) (enc r)=rs at*;generalize List.map (fun(x:Nat)=>D.v (Value.int IntKind.u32 (x:Int))) (enc (r+1))=rs2 at*;have i1:=idx hxa;simp only[Int.natCast_one]at t;simp[IntKind.bits,FJ,f171,hla,hxa,i1,w1,w2,w3,w4,w5,w6,hs0,t]
theorem agX (a:List Nat)(y:Nat)(Q:List Nat)(r i:Nat)(t8:FV)(hi:i<=1000000000)(lr:sz r<=10000000)(ly:sz y<=10000000)(hQ:bY Q)(hw:i / 32<Q.length)(hbit:bH Q (i / 32) % 2 ^ (i % 32+1)=0) :
  ∃ t9,Ex E0 FJ.r.l.bl.r.r (E8 a (enc y) (LL Q) Q.length (.d (LD (enc r))) i .u t8 .u)
   (.norm,E8 a (enc y) (LL (if y<=r then Q.set (i / 32) (bH Q (i / 32)+2 ^ (i % 32)) else Q)) Q.length (.d (LD (enc (if y<=r then r-y else r)))) i .u .u t9):=by
 obtain⟨n1,t1⟩:=(O5 r y ae ae).any;have hs:i % 32<32:=Qu1 _ ae;have hL:=dx hQ (i / 32);obtain⟨o1,o2⟩:=or_bit hL hs hbit;have hse:=ajM hs;have w1:Int.tdiv (i:Int) 32=((i / 32:Nat):Int):=by rw[Q72 ae];omega
 have w2:ak .i64 ((i / 32:Nat):Int)=((i / 32:Nat):Int):=wrap_i64 ae;have w3:Int.tmod (i:Int) 32=((i % 32:Nat):Int):=by rw[Xd2 ae];omega
 have w4:ak .u64 ((i % 32:Nat):Int)=((i % 32:Nat):Int):=wrap_u64 ae;have hge:(LL Q)[i / 32]?=some (.v (.int .u32 ((bH Q (i / 32):Nat):Int))):=by simp[LL,bH,Qa1 hw]
 have hset:LL (Q.set (i / 32) (bH Q (i / 32)+2 ^ (i % 32)))=(LL Q).set (i / 32) (.v (.int .u32 ((bH Q (i / 32)+2 ^ (i % 32):Nat):Int))):=by simp[LL,Q51]
 have hlen:(LL Q).length=Q.length:=by simp[LL]
 by_cases Ty:y<=r
 ·have hc:(0:Int)<=d_ r y:=by unfold d_;rw[if_neg ae];split<;>omega
  unfold sz at lr ly;obtain⟨n2,t2⟩:=(FI (enc r) (enc y) ae (bL Ty) (aV _) (aV _) (by rw[a_,a_];exact Ty)).any;rw[a_,a_]at t2;replace t1:=t1 (n1+n2) ae;replace t2:=t2 (n1+n2) ae;generalize n1+n2=N at*;rw[if_pos Ty,if_pos Ty,hset];refine⟨.u,Ex.of (n:=N+60) ?_⟩;unfold E8;generalize bH Q (i / 32)+2 ^ (i % 32)=v at*;generalize 2 ^ (i % 32)=p at*;have hs0:¬ (((i % 32:Nat):Int)<0):=ae;generalize i % 32=s,bH Q (i / 32)=q0 at*;generalize i / 32=w,d_ r y=cc at*;simp only[LD]at t1 t2 ⊢;generalize LL a=as',LL Q=es,LL (enc r)=rs,LL (enc y)=ys,LL (enc (r-y))=ms at*;have i1:=idx hge;generalize Q.length=l at*;simp[IntKind.bits,FJ,f171,hlen,hw,hge,i1,t1,t2,hc,w1,w2,w3,w4,o1,hse,hs0]
 ·have hc:d_ r y=-1:=by unfold d_;rw[if_pos ae]
  rw[hc]at t1;replace t1:=t1 n1 ae;rw[if_neg Ty,if_neg Ty];refine⟨dB false,Ex.of (n:=n1+60) ?_⟩;unfold E8;simp only[LD]at t1 ⊢;generalize LL a=as',LL Q=es,LL (enc r)=rs,LL (enc y)=ys at*;simp[FJ,f171,t1]
theorem xh (w:Nat):(2:Nat) ^ (32*w)=4294967296 ^ w:=by rw[X52]
theorem JK (x j:Nat):x / 4294967296 ^ (j / 32) % 4294967296 / 2 ^ (j % 32) % 2=x / 2 ^ j % 2:=by
 have hj:j=32*(j / 32)+j % 32:=ae;have hs:j % 32<32:=Qu1 _ ae;have e:x / 2 ^ j=x / 4294967296 ^ (j / 32) / 2 ^ (j % 32):=by
  conv=>lhs;rw[hj,Qz1,xh,<-Q02]
 rw[e];generalize x / 4294967296 ^ (j / 32)=z;generalize j % 32=s at*;have hp:0<2 ^ s:=Qt2 ae;have e2:4294967296=2 ^ s*(2*2 ^ (31-s)):=by
  rw[<-Q21,Qk2 (2 ^ s) 2,<-Nat.pow_succ',<-Qz1,show s+1+(31-s)=32 by omega]
 have e3:z / 2 ^ s=z % 4294967296 / 2 ^ s+2*(2 ^ (31-s)*(z / 4294967296)):=by
  conv=>lhs;rw[<-Nat.mod_add_div z 4294967296]
  have:4294967296*(z / 4294967296)=2 ^ s*(2*(2 ^ (31-s)*(z / 4294967296))):=by
   conv=>lhs;lhs;rw[e2]
   rw[Q21,Q21]
  rw[this,X20 _ _ hp]
 omega
theorem FK {Q:List Nat}(hQ:bY Q){q j:Nat}(hv:val Q=q*2 ^ (j+1)):bH Q (j / 32) % 2 ^ (j % 32+1)=0:=by
 have hs:j % 32<32:=Qu1 _ ae;have hj:j+1=32*(j / 32)+(j % 32+1):=ae;rw[ZW hQ,hv];have e:q*2 ^ (j+1)=4294967296 ^ (j / 32)*(q*2 ^ (j % 32+1)):=by
  conv=>lhs;rw[hj,Qz1,xh]
  generalize 4294967296 ^ (j / 32)=A;generalize 2 ^ (j % 32+1)=C;grind
 rw[e,Nat.mul_div_cancel_left _ (Qt2 ae)];have hd:2 ^ (j % 32+1) ∣ 4294967296:=by
  have:(4294967296:Nat)=2 ^ 32:=by rfl
  rw[this];exact Nat.pow_dvd_pow 2 ae
 rw[Nat.mod_mod_of_dvd _ hd,Nat.mul_mod_left]
theorem ZX {H y b:Nat}(hy:0<y)(hb:b<2) :
  (2*H+b) / y=(if y<=2*(H % y)+b then 2*(H / y)+1 else 2*(H / y))/\(2*H+b) % y=if y<=2*(H % y)+b then 2*(H % y)+b-y else 2*(H % y)+b:=by
 have h1:=Xs1 H y;have h2:=Qu1 H hy;generalize H % y=r,H / y=q at*;have e:2*H+b=y*(2*q)+(2*r+b):=by
  rw[<-h1];grind
 by_cases h:y<=2*r+b
 ·rw[if_pos h,if_pos h];have e2:2*H+b=y*(2*q+1)+(2*r+b-y):=by rw[e,Xb2,Xy2];omega
  have hlt:2*r+b-y<y:=ae;rw[e2,Xl2 hy,Xa1 hlt,X2,Qx1 hlt];exact⟨rfl,rfl⟩
 ·rw[if_neg h,if_neg h];have hlt:2*r+b<y:=ae;rw[e,Xl2 hy,Xa1 hlt,X2,Qx1 hlt];exact⟨rfl,rfl⟩
theorem ZY (x y:Nat)(hy:0<y)(lx:sz x<=1000000)(ly:sz y<=1000000) :
  ∃ r,Ex E0 (.loop FJ) (E8 (enc x) (enc y) (LL (row0 [] (sz x))) (sz x) (.d (.n 1)) (((32*sz x:Nat):Int)-1) .u .u .u) r /\
   ∃ Q rv,bY Q/\Q.length=sz x/\val Q=x / y/\okr rv (x % y)/\r=(.exit 0,E8 (enc x) (enc y) (LL Q) (sz x) rv (-1) (dB false) .u .u):=by
 refine Ex.inv (S:=fun t:Nat × List Nat × FV=>E8 (enc x) (enc y) (LL t.2.1) (sz x) t.2.2 ((t.1:Int)-1) .u .u .u) (fun t=>t.1)
  (fun t=>t.1<=32*sz x/\bY t.2.1/\t.2.1.length=sz x/\val t.2.1=x / 2 ^ t.1 / y*2 ^ t.1/\okr t.2.2 (x / 2 ^ t.1 % y)) _ ?_ (32*sz x,row0 [] (sz x),.d (.n 1)) ?_
 ·rintro⟨j,Q,rv⟩ ⟨h1,h2,h3,h4,h5⟩;simp only at h1 h2 h3 h4 h5;cases j with
  | zero =>
   simp only[Nat.pow_zero,Xj2,Xy2]at h4 h5;refine .inr ⟨_,?_,aC,Q,rv,h2,h3,h4,h5,rfl⟩;have:=adM (enc x) (enc y) (LL Q) (sz x) rv;simpa using Ex.of this
  | succ j =>
   have hw:j / 32<sz x:=ae;have hr2:x / 2 ^ (j+1) % y<y:=Qu1 _ hy;have hsr:sz (x / 2 ^ (j+1) % y)<=1000000:=Qc1 (qo ae) ly;have p1:=agV (enc x) (enc y) (LL Q) (sz x) rv _ (j:Int) h5 ae;have amF:sz (2*(x / 2 ^ (j+1) % y))<=1000002:=by
    have:=MC (x / 2 ^ (j+1) % y) (x / 2 ^ (j+1) % y);rw[show x / 2 ^ (j+1) % y+x / 2 ^ (j+1) % y=2*(x / 2 ^ (j+1) % y) by omega]at this;omega
   have hax:(enc x)[j / 32]?=some (bH (enc x) (j / 32)):=by
    have:j / 32<(enc x).length:=hw;simp[bH,Qa1 this]
   obtain⟨t8,p2⟩:=agW (enc x) (enc y) (LL Q) (sz x) (2*(x / 2 ^ (j+1) % y)) j _ hax (dx (aV x) _) ae ae;rw[wY,JK]at p2;have hb:x / 2 ^ j % 2<2:=Qu1 _ ae;have hH:x / 2 ^ j=2*(x / 2 ^ (j+1))+x / 2 ^ j % 2:=by
    rw[Qn2,<-Q02];omega
   obtain⟨d1,d2⟩:=ZX (H:=x / 2 ^ (j+1)) hy hb;rw[<-hH]at d1 d2;have amG:sz (2*(x / 2 ^ (j+1) % y)+x / 2 ^ j % 2)<=1000004:=by
    have:=MC (2*(x / 2 ^ (j+1) % y)) (x / 2 ^ j % 2);have h1s:sz (x / 2 ^ j % 2)<=1:=vg ae;omega
   obtain⟨t9,p3⟩:=agX (enc x) y Q (2*(x / 2 ^ (j+1) % y)+x / 2 ^ j % 2) j t8 ae ae ae h2 ae (FK h2 h4);rw[<-d2,h3]at p3;have w3:ak .i64 ((j:Int)-1)=(j:Int)-1:=wrap_i64 ae;have w4:(0:Int)<=(j:Int):=ae;have hlim:=dx h2 (j / 32);refine .inl ⟨(j,if y<=2*(x / 2 ^ (j+1) % y)+x / 2 ^ j % 2 then Q.set (j / 32) (bH Q (j / 32)+2 ^ (j % 32)) else Q,.d (LD (enc (x / 2 ^ j % y)))),?_,aC,by simp only;omega,?_,?_,?_,.inl rfl⟩
   ·simp only;rw[show(((j+1:Nat):Int)-1)=(j:Int) by omega];generalize (if y<=2*(x / 2 ^ (j+1) % y)+x / 2 ^ j % 2 then Q.set (j / 32) (bH Q (j / 32)+2 ^ (j % 32)) else Q)=Q',x / 2 ^ j % y=r' at*;show Ex E0 (.seq FJ.l (.seq (.block 1 (.seq FJ.r.l.bl.l (.seq FJ.r.l.bl.r.l FJ.r.l.bl.r.r))) FJ.r.r)) _ _;refine Ex.seq (Ex.of (n:=40) ?_) (Ex.seq (Ex.eZ (p1.seq (p2.seq p3))) (Ex.of (n:=40) ?_))
    ·unfold E8;simp only[LD];generalize LL (enc x)=as' at*;generalize LL (enc y)=bs at*;generalize LL Q=es at*;simp[FJ,f171,w4]
    ·unfold E8;simp only[LD];generalize LL (enc x)=as' at*;generalize LL (enc y)=bs at*;generalize LL Q'=es at*;generalize LL (enc r')=rs at*;simp[FJ,f171,w3]
   ·simp only;split
    ·exact G7 h2 (or_bit hlim (Qu1 _ ae) (FK h2 h4)).2
    ·exact h2
   ·simp only;split
    ·simp[h3]
    ·exact h3
   ·simp only;rw[d1];split
    ·have hvs:=Bf Q (j / 32) (bH Q (j / 32)+2 ^ (j % 32)) ae;have e2:4294967296 ^ (j / 32)*2 ^ (j % 32)=2 ^ j:=by
      rw[<-xh,<-Qz1,show 32*(j / 32)+j % 32=j by omega]
     rw[Xb2,e2,h4,Qn2]at hvs;have e3:(2*(x / (2 ^ j*2) / y)+1)*2 ^ j=x / (2 ^ j*2) / y*(2 ^ j*2)+2 ^ j:=by grind
     rw[Qn2,e3];omega
    ·rw[h4,Qn2];grind
 ·have hx0:x / 2 ^ (32*sz x)=0:=by rw[xh];exact Xa1 (JC x)
  refine⟨Qd2 _,?_,by simp[row0],?_,.inr ⟨?_,rfl⟩⟩
  ·intro z hz;simp[row0]at hz;omega
  ·have:∀ m,val (List.replicate m 0)=0:=by
    intro m
    induction m with
    | zero=>rfl
    | succ m ih=>rw[Xk1,val,ih]
   simp only[row0,Qv2,this,hx0];simp
  ·simp only[hx0,Nat.zero_mod]
theorem yT (x y:Nat)(hy:0<y)(lx:sz x<=1000000)(ly:sz y<=1000000) :
  Ca E0 171 [.d (LD (enc x)),.d (LD (enc y))] (.d (.t [LD (enc (x / y)),LD (enc (x % y))]),none):=by
 obtain⟨r,hloop,Q,rv,hQ,hql,hv,hr,rfl⟩:=ZY x y hy lx ly;obtain⟨n0,hc⟩:=(xe Q ae).get;rw[dm hQ,hv]at hc;have vN:(LL (enc x)).length=sz x:=by simp[LL,sz]
 have hlo:(LL Q).length=sz x:=by simp[LL,hql]
 have htk:(LL Q).take (sz x)=LL Q:=Qe1 ae;have hz:=wX (sz x);generalize enc (x / y)=res at*;refine Ca.body (o:=.ret) (st1:=(st0 (.u::.u::.d (LD res)::rv::uV) [.h_ 0 1 (LL Q)])) rfl (aO 171 f171:E0.fn _=_) rfl ?_ (by intro id h;cases h) ?_
 ·show Ex E0 (.seq f171.body.l (.seq f171.body.r.l (.seq f171.body.r.r.l (.seq (.seq f171.body.r.r.r.l.l (.block 0 (.loop FJ))) f171.body.r.r.r.r)))) _ _;refine Ex.seq (st1:=(st0 (.d (LD (enc x))::.d (LD (enc y))::zW) [])) (Ex.of (n:=40) ?_)
   (Ex.seq (st1:=(st0 (.d (LD (enc x))::.d (LD (enc y))::.u::.u::.ls (.loc 0) 0 1 0 (sz x)::n_) [.row 0 1 (LL (row0 [] (sz x)))])) (Ex.of (n:=40) ?_)
   (Ex.seq (st1:=(st0 (.d (LD (enc x))::.d (LD (enc y))::.u::.u::.ls (.loc 0) 0 1 0 (sz x)::.d (.n 1)::wW) [.row 0 1 (LL (row0 [] (sz x)))])) (Ex.of (n:=40) ?_)
   (Ex.seq (Ex.seq (Ex.of (n:=40) ?_) hloop.block) (Ex.of (n:=n0+40) ?_))))
  ·simp[f171]
  ·have hm1:((sz x:Nat):Int)*4<=1099511627776:=ae;have hm2:((sz x:Nat):Int)<=1099511627776:=ae;rw[hz];simp only[LD];generalize LL (enc x)=as',LL (enc y)=bs,sz x=m at*;simp[f171,vN,hm1,hm2,most]
  ·simp[f171]
  ·have w1:ak .i64 (32*((sz x:Nat):Int))=((32*sz x:Nat):Int):=by rw[wrap_i64 ae];omega
   have w2:ak .i64 (((32*sz x:Nat):Int)-1)=((32*sz x:Nat):Int)-1:=wrap_i64 ae;unfold E8;simp only[LD];generalize LL (enc x)=as',LL (enc y)=bs,LL (row0 [] (sz x))=es,32*sz x=m32 at*;generalize sz x=m at*;simp[f171,vN,w1,w2]
  ·unfold E8;clear hloop;simp only[LD]at hc ⊢;generalize LL Q=es,sz x=m at*;simp[ah.view,f171,hlo,htk,hc]
 ·rcases hr with rfl|⟨h0,rfl⟩
  ·simp[f171,LD,rH]
  ·rw[h0];simp[f171,LD,LL,dH,rH]
def wgB:aF:=f170.body.r.l.bl.lp
theorem UK (a:Nat):Ex E0 wgB (ET a 0 .u) (.exit 0,ET a 0 (dB false)):=by
 refine Ex.of (n:=40) ?_;unfold ET;simp only[dH,LD];generalize LL (enc a)=as';simp[wgB,f170,LL]
theorem MH (a b:Nat)(la:sz a<=1000000)(lb:sz b<=1000000)(hb0:0<b):Ex E0 wgB (ET a b .u) (.norm,ET b (a % b) .u):=by
 obtain⟨n0,ho⟩:=(yT a b hb0 la lb).get;refine Ex.of (n:=n0+60) ?_;unfold ET;have hlb:∃ m,(LL (enc b)).length=m+1:=by
  have:0<(enc b).length:=Xh2.2 (by intro e;rw[eH]at e;omega);exact⟨(enc b).length-1,by simp[LL];omega⟩
 obtain⟨m,hlb⟩:=hlb;have hm:0<(m:Int)+1:=ae;simp only[LD]at ho ⊢;generalize LL (enc a)=as',LL (enc b)=bs,LL (enc (a / b))=qs,LL (enc (a % b))=rs at*;simp[wgB,f170,hlb,ho,hm]
theorem QL (a b:Nat)(la:sz a<=1000000)(lb:sz b<=1000000):Ex E0 (.loop wgB) (ET a b .u) (.exit 0,ET (Nat.gcd a b) 0 (dB false)):=by
 induction b using Nat.strongRecOn generalizing a with
 | ind b ih =>
  rcases Qr2 b with rfl|h0
  ·rw[Nat.gcd_zero_right];exact Ex.out (UK a) aC
  ·have hm:=Qu1 a h0;have:=ih (a % b) hm b lb (Qc1 (qo ae) lb);have hg:Nat.gcd a b=Nat.gcd b (a % b):=by rw[Xt2 a b,Nat.gcd_rec b a,Xt2]
   rw[hg];exact Ex.next (MH a b la lb h0) this
theorem Ck (a b:Nat)(la:sz a<=1000000)(lb:sz b<=1000000):Ca E0 170 [.d (LD (enc a)),.d (LD (enc b))] (.d (LD (enc (Nat.gcd a b))),none):=by
 have hl:=QL a b la lb;generalize Nat.gcd a b=g at*;refine Ca.body (o:=.ret) (st1:=(st0 [.u,.u,.d (LD (enc g)),.u,.u] [])) rfl (aO 170 f170:E0.fn _=_) rfl ?_ (by intro id h;cases h) ?_
 ·show Ex E0 (.seq f170.body.l (.seq (.block 0 (.loop wgB)) f170.body.r.r)) _ _;refine Ex.seq (st1:=ET a b .u) (Ex.of (n:=40) ?_) (Ex.seq hl.block (Ex.of (n:=40) ?_))
  ·unfold ET;simp[f170]
  ·unfold ET;simp[f170]
 ·simp[f170,LD]
theorem last_cases (l:List Nat):l=[]\/∃ (m x:Nat),l.length=m+1/\(LL l)[m]?=some (.v (.int .u32 (x:Int)))/\((x:Int)==0) = !vR l:=by
 rcases Q92 l with h|⟨b,x,h⟩
 ·exact .inl h
 ·refine .inr ⟨b.length,x,by simp[h],by simp[LL,h],?_⟩;rw[h,Q50];unfold vR
  by_cases hx:x=0
  ·subst hx;rw[uu];have h2:=su b;have h3:¬ trim b=b++[0]:=by
    intro e;rw[e]at h2;simp only[Qb0,Qf2,Qs0]at h2;omega
   simp[h3]
  ·rw[uq b x hx];have:((x:Int)==0)=false:=by simp;omega
   simp[this]
theorem Bp {g:Nat}:enc g=[1]↔g=1:=by
 constructor
 ·intro h;have:=a_ g;rw[h]at this;simp[val]at this;omega
 ·rintro rfl;exact jI ae ae
theorem QM (s:Bool)(a b:List Nat)(hb:bY b) :
  ek s a b=(if !vR a || !vR b||decide (b=[1]) then false else if a=[] then !s&&decide (b=[]) else decide (b=[])||decide (Nat.gcd (val a) (val b)=1)):=by
 unfold ek;cases vR a
 ·simp
 ·cases h:vR b
  ·simp
  ·simp only[Qs1,Xg1,Xc1]
   by_cases h1:b=[1]
   ·subst h1;simp[val]
   ·have hv:b≠[]->val b≠1:=by
     intro _ hv;have:=(oq hb).1 h;rw[hv]at this;exact h1 (this.trans (Bp.2 rfl))
    simp only[h1,decide_false,Qh1,if_false]
    by_cases h0:b=[]
    ·subst h0;simp
    ·simp only[h0,decide_false,Bool.and_false,Xc1,hv h0,ne_eq,not_false_eq_true,decide_true,Qs1]
theorem uB (s:Bool)(a b:List Nat)(la:a.length<=1000000)(lb:b.length<=1000000)(ha:bY a)(hb:bY b):Ca E0 97 [.d (raw s a b)] (dB (ek s a b),none):=by
 rw[QM s a b hb];have h1:=fun m=>Ci m b
 -- the two last limbs
 have ca:=last_cases a;have cb:=last_cases b;have hla:(LL a).length=a.length:=by simp[LL]
 have hlb:(LL b).length=b.length:=by simp[LL]
 by_cases hbad:(!vR a || !vR b||decide (b=[1]))=true
 ·rw[if_pos hbad];refine Ca.bQ (n:=90) ?_;rw[aA rfl (k97:E0.fn _=_) rfl];rcases ca with rfl|⟨m,x,hm,hx,hx0⟩
  ·have ok0:vR []=true:=by simp[vR,trim]
   rw[ok0]at hbad;rcases cb with rfl|⟨m2,y,hm2,hy,hy0⟩
   ·rw[ok0]at hbad;simp at hbad
   ·have p2:(0:Int)<(m2:Int)+1:=ae;have w2:ak .i64 (m2:Int)=(m2:Int):=wrap_i64 ae;rw[hm2]at hlb;cases Jd:vR b
    ·rw[Jd]at hy0;simp only[raw,LD]at h1 ⊢;generalize LL b=bs at*;have i2:=idx hy;simp only[LL,Qc2];simp[f97,hlb,hy,i2,hy0,p2,w2]
    ·rw[Jd]at hy0 hbad;have h11:decide (b=[1])=true:=by simpa using hbad
     rw[h11]at h1;simp only[raw,LD]at h1 ⊢;generalize LL b=bs at*;have i2:=idx hy;simp only[LL,Qc2];simp[f97,hlb,hy,i2,hy0,p2,w2,h1]
  ·have p1:(0:Int)<(m:Int)+1:=ae;have w1:ak .i64 (m:Int)=(m:Int):=wrap_i64 ae;rw[hm]at hla;cases hoa:vR a
   ·rw[hoa]at hx0;simp only[raw,LD]at h1 ⊢;generalize LL a=as',LL b=bs at*;have i1:=idx hx;simp[f97,hla,hx,i1,hx0,p1,w1]
   ·rw[hoa]at hx0 hbad;rcases cb with rfl|⟨m2,y,hm2,hy,hy0⟩
    ·have ok0:vR []=true:=by simp[vR,trim]
     rw[ok0]at hbad;simp at hbad
    ·have p2:(0:Int)<(m2:Int)+1:=ae;have w2:ak .i64 (m2:Int)=(m2:Int):=wrap_i64 ae;rw[hm2]at hlb;cases Jd:vR b
     ·rw[Jd]at hy0;simp only[raw,LD]at h1 ⊢;generalize LL a=as',LL b=bs at*;have i1:=idx hx;have i2:=idx hy;simp[f97,hla,hx,i1,hx0,p1,w1,hlb,hy,i2,hy0,p2,w2]
     ·rw[Jd]at hy0 hbad;have h11:decide (b=[1])=true:=by simpa using hbad
      rw[h11]at h1;simp only[raw,LD]at h1 ⊢;generalize LL a=as',LL b=bs at*;have i1:=idx hx;have i2:=idx hy;simp[f97,hla,hx,i1,hx0,p1,w1,hlb,hy,i2,hy0,p2,w2,h1]
 ·rw[if_neg hbad];simp only[Xm1,Qt1,decide_eq_true_eq,not_or,Bool.not_eq_false]at hbad;obtain⟨⟨hoa,Jd⟩,hb1⟩:=hbad;have h10:decide (b=[1])=false:=by simpa using hb1
  rw[h10]at h1;rcases ca with rfl|⟨m,x,hm,hx,hx0⟩
  ·rw[if_pos rfl];refine Ca.bQ (n:=90) ?_;rw[aA rfl (k97:E0.fn _=_) rfl];rcases cb with rfl|⟨m2,y,hm2,hy,hy0⟩
   ·simp only[raw,LD,LL,Qc2]at h1 ⊢;cases s<;>simp[f97,h1]
   ·have p2:(0:Int)<(m2:Int)+1:=ae;have w2:ak .i64 (m2:Int)=(m2:Int):=wrap_i64 ae;have hbn:decide (b=[])=false:=by
     have:¬ b=[]:=by intro e;rw[e]at hm2;simp at hm2
     simpa using this
    have hne:(((m2:Int)+1)==0)=false:=by simp;omega
    rw[hm2]at hlb;rw[Jd]at hy0;rw[hbn];simp only[raw,LD]at h1 ⊢;generalize LL b=bs at*;have i2:=idx hy;simp only[LL,Qc2];cases s<;>simp[f97,hlb,hy,i2,hy0,p2,w2,h1,hne]
  ·have p1:(0:Int)<(m:Int)+1:=ae;have w1:ak .i64 (m:Int)=(m:Int):=wrap_i64 ae;have han:¬ a=[]:=by intro e;rw[e]at hm;simp at hm
   have hne:(((m:Int)+1)==0)=false:=by simp;omega
   rw[if_neg han];rw[hoa]at hx0;rw[hm]at hla;rcases cb with rfl|⟨m2,y,hm2,hy,hy0⟩
   ·refine Ca.bQ (n:=90) ?_;rw[aA rfl (k97:E0.fn _=_) rfl];simp only[raw,LD]at h1 ⊢;generalize LL a=as' at*;have i1:=idx hx;simp only[LL,Qc2]at h1 ⊢;simp[f97,hla,hx,i1,hx0,p1,w1,h1,hne]
   ·have p2:(0:Int)<(m2:Int)+1:=ae;have w2:ak .i64 (m2:Int)=(m2:Int):=wrap_i64 ae;have hbn:¬ b=[]:=by intro e;rw[e]at hm2;simp at hm2
    have hne2:(((m2:Int)+1)==0)=false:=by simp;omega
    have hdb:decide (b=[])=false:=by simpa using hbn
    have ea:=(oq ha).1 hoa;have eb:=(oq hb).1 Jd;obtain⟨N,hg⟩:=(Ck (val a) (val b) (by unfold sz;rw[<-ea];omega) (by unfold sz;rw[<-eb];omega)).get;rw[<-ea,<-eb]at hg;have hg1:=fun m=>Ci m (enc (Nat.gcd (val a) (val b)))
    have e1:decide (enc (Nat.gcd (val a) (val b))=[1])=decide (Nat.gcd (val a) (val b)=1):=by simp[Bp]
    rw[e1]at hg1;refine Ca.bQ (n:=N+90) ?_;rw[aA rfl (k97:E0.fn _=_) rfl];rw[hdb,Xc1];rw[hm2]at hlb;rw[Jd]at hy0;generalize decide (Nat.gcd (val a) (val b)=1)=res at*;simp only[raw,LD]at h1 hg hg1 ⊢;generalize LL (enc (Nat.gcd (val a) (val b)))=gs,LL a=as',LL b=bs at*;have i1:=idx hx;have i2:=idx hy;simp[f97,hla,hx,i1,hx0,p1,w1,hlb,hy,i2,hy0,p2,w2,h1,hne,hne2,hg,hg1]
def cB (s:Bool)(a b:List Nat):Rat:=wZ s (val a) (if b=[] then 1 else val b)
theorem uC {s:Bool}{a b:List Nat}(ha:bY a)(hb:bY b)(h:ek s a b=true):raw s a b=qD (cB s a b):=by
 unfold ek at h;simp only[Qd0]at h;obtain⟨⟨hoa,Jd⟩,hc⟩:=h;have ea:=(oq ha).1 hoa;have eb:=(oq hb).1 Jd;unfold qD qn qd cB
 by_cases hna:a=[]
 ·subst hna;rw[if_pos rfl]at hc;simp only[Qd0,Qt1,decide_eq_true_eq]at hc;obtain⟨hs,hb0⟩:=hc;subst hs hb0;rw[if_pos rfl,Cg ae,uA ae,uz ae];simp[val,raw,dH]
 ·rw[if_neg hna]at hc;have hva:val a≠0:=by
   intro e;rw[e,dH]at ea;exact hna ea
  by_cases hnb:b=[]
  ·subst hnb;rw[if_pos rfl,Cg ae,uA ae,uz ae,Nat.gcd_one_right,Xj2,Xj2,if_neg hva,if_pos rfl,<-ea]
  ·have hvb:val b≠0:=by
    intro e;rw[e,dH]at eb;exact hnb eb
   rw[if_neg hnb];simp only[hnb,decide_false,Xc1,Qd0,decide_eq_true_eq]at hc;rw[Cg ae,uA ae,uz ae,hc.2,Xj2,Xj2,if_neg hva,if_neg hc.1,<-ea,<-eb]
theorem sM (x:Rat):cB (qs x) (qn x) (qd x)=x:=by
 unfold cB;have h1:val (qn x)=x.num.natAbs:=a_ _;have h2:(if qd x=[] then 1 else val (qd x))=x.den:=by
  unfold qd;have hd:=x.den_nz
  by_cases h:x.den=1
  ·rw[if_pos h,if_pos rfl,h]
  ·rw[if_neg h,if_neg (by rw[eH];exact hd),a_]
 rw[h1,h2,JE]
theorem xk {s:Bool}{a b:List Nat}(ha:bY a)(hb:bY b)(k:Nat)(la:a.length<=k)(lb:b.length<=k)(hk:1<=k)(h:ek s a b=true):qz (cB s a b)<=k:=by
 unfold cB;have hd:0<(if b=[] then 1 else val b):=by
  split
  ·omega
  ·rename_i hnb;unfold ek at h;simp only[Qd0]at h;have eb:=(oq hb).1 h.1.2;rcases Qr2 (val b) with e|e
   ·rw[e,dH]at eb;exact absurd eb hnb
   ·exact e
 refine Qc1 (Ch hd) ?_;have h1:sz (val a)<=k:=by
  refine Qc1 (vg (k:=a.length) (oM ha)) la
 have h2:sz (if b=[] then 1 else val b)<=k:=by
  split
  ·rw[Ce];exact hk
  ·exact Qc1 (vg (k:=b.length) (oM hb)) lb
 omega
def UL (s:Bool)(a b:List Nat):D:=if ek s a b then raw s a b else raw false [] []
theorem UM (s:Bool)(a b:List Nat)(la:a.length<=1000000)(lb:b.length<=1000000)(ha:bY a)(hb:bY b):Ca E0 85 [.d (raw s a b)] (.d (UL s a b),none):=by
 obtain⟨N,t⟩:=(uB s a b la lb ha hb).get;unfold UL;refine Ca.bQ (n:=N+60) ?_;rw[aA rfl (aO 85 f85:E0.fn _=_) rfl];cases hv:ek s a b
 ·rw[hv]at t;rw[if_neg aC];simp only[raw,LD]at t ⊢;generalize LL a=as',LL b=bs at*;simp only[LL,Qc2];simp[f85,t]
 ·rw[hv]at t;rw[if_pos rfl];have l1:(LL a).length<=1000000:=by simpa[LL] using la
  have l2:(LL b).length<=1000000:=by simpa[LL] using lb
  simp only[raw,LD]at t ⊢;generalize LL a=as',LL b=bs at*;cases as' with
  | nil =>
   cases bs with
   | nil=>simp[f85,t,ah.view,most]
   | cons y ys =>
    simp only[Qf2]at l2;have m1:(ys.length+1)*4<=1099511627776:=ae;have m2:ys.length+1<=1099511627776:=ae;simp[f85,t,ah.view,most,m1,m2]
  | cons x xs =>
   simp only[Qf2]at l1;have m3:(xs.length+1)*4<=1099511627776:=ae;have m4:xs.length+1<=1099511627776:=ae;cases bs with
   | nil=>simp[f85,t,ah.view,most,m3,m4]
   | cons y ys =>
    simp only[Qf2]at l2;have m1:(ys.length+1)*4<=1099511627776:=ae;have m2:ys.length+1<=1099511627776:=ae;simp[f85,t,ah.view,most,m1,m2,m3,m4]
theorem iP (x:Rat)(hx:qz x<=1000000):Ca E0 85 [.d (qD x)] (.d (qD x),none):=by
 have h:=UM (qs x) (qn x) (qd x) (Qc1 (UB x) hx) (Qc1 (UC x) hx) (He x) (Hf x);unfold UL at h;rw[uw,if_pos rfl]at h;exact h
theorem Bq (n:Nat)(x:Rat):CL E0 (n+40) 88 [.d (qD x)] []=some (.d (LD (enc x.den)),none):=by
 rw[aA rfl (aO 88 f88:E0.fn _=_) rfl];have hd:=x.den_nz;unfold qD qd
 by_cases h:x.den=1
 ·rw[if_pos h,h,Cc];simp only[raw,LD];generalize LL (qn x)=ns,qs x=s at*;simp only[LL,Qc2];simp[f88,ah.view]
 ·rw[if_neg h];have hne:¬ LL (enc x.den)=[]:=by simp[LL,eH,hd]
  simp only[raw,LD];generalize LL (qn x)=ns,LL (enc x.den)=ds,qs x=s at*;simp[f88,hne]
theorem Cm {s:Bool}{n d:Nat}(ln:sz n<=1000000)(ld:sz d<=1000000)(hd0:0<d):Ca E0 89 [dB s,.d (LD (enc n)),.d (LD (enc d))] (.d (qD (wZ s n d)),none):=by
 unfold qD qn qd;rw[Cg hd0,uA hd0,uz hd0];rcases Qr2 n with rfl|hn0
 ·have e2:d / Nat.gcd 0 d=1:=by rw[Nat.gcd_zero_left];exact Nat.div_self hd0
  rw[e2];refine Ca.bQ (n:=60) ?_;rw[aA rfl (k89:E0.fn _=_) rfl];simp only[raw,Nat.zero_div,dH,if_true,LD,LL,Qc2];generalize List.map (fun(x:Nat)=>D.v (Value.int IntKind.u32 (x:Int))) (enc d)=ds at*;simp[f89]
 ·rw[if_neg ae];have hg:0<Nat.gcd n d:=Xu1 n hd0;have lg:sz (Nat.gcd n d)<=1000000:=Qc1 (qo (X00 hd0 (Xw2 n d))) ld;obtain⟨Kq,_,c1,c3,c4⟩:=((Ck n d ln ld).j ((yT n (Nat.gcd n d) hg ln lg).j ((yT d (Nat.gcd n d) hg ld lg).any))).at 0;generalize Kq=N at*;have hln:¬ LL (enc n)=[]:=by
   have:¬ n=0:=ae;simp[LL,eH,this]
  have o1:=fun m=>Ci m (enc (d / Nat.gcd n d))
  have e1:decide (enc (d / Nat.gcd n d)=[1])=decide (d / Nat.gcd n d=1):=by simp[Bp]
  rw[e1]at o1;generalize Nat.gcd n d=g at*;refine Ca.bQ (n:=N+80) ?_;rw[aA rfl (k89:E0.fn _=_) rfl]
  by_cases hd1:d / g=1
  ·rw[if_pos hd1];rw[decide_eq_true hd1]at o1;generalize d / g=dd,n / g=nn,n % g=m1,d % g=m2 at*;simp only[raw,LD]at c1 c3 c4 o1 ⊢;generalize LL (enc n)=ns,LL (enc d)=ds,LL (enc g)=gs at*;generalize LL (enc nn)=q1,LL (enc dd)=q2,LL (enc m1)=x1,LL (enc m2)=x2 at*;simp only[LL,Qc2];simp[f89,o1,c1,c3,c4,hln]
  ·rw[if_neg hd1];rw[decide_eq_false hd1]at o1;generalize d / g=dd,n / g=nn,n % g=m1,d % g=m2 at*;simp only[raw,LD]at c1 c3 c4 o1 ⊢;generalize LL (enc n)=ns,LL (enc d)=ds,LL (enc g)=gs at*;generalize LL (enc nn)=q1,LL (enc dd)=q2,LL (enc m1)=x1,LL (enc m2)=x2 at*;simp[f89,o1,c1,c3,c4,hln]
theorem ng (x:Rat)(hx:qz x<=1000000):Ca E0 98 [.d (qD x)] (dI x.num.sign,none):=by
 obtain⟨N,t⟩:=(iP x hx).get;refine Ca.bQ (n:=N+60) ?_;rw[aA rfl (aO 98 f98:E0.fn _=_) rfl];simp only[qD,raw,LD]at*;have hs:(LL (qn x)=[]/\qs x=false/\x.num.sign=0)\/(LL (qn x)≠[]/\qs x=true/\x.num.sign=-1)\/((∃ m,(LL (qn x)).length=m+1)/\qs x=false/\x.num.sign=1):=by
  have hnil:LL (qn x)=[]↔x.num.natAbs=0:=by simp only[LL,Xr1];exact eH
  rw[Ne,hnil];rcases Q82 x.num 0 with h|h|h
  ·exact .inr (.inl ⟨ae,decide_eq_true h,Q30 h⟩)
  ·exact .inl ⟨ae,decide_eq_false ae,by rw[h];rfl⟩
  ·refine .inr (.inr ⟨?_,decide_eq_false ae,Q81 h⟩);cases hl:LL (qn x) with
   | nil=>rw[hnil]at hl;omega
   | cons y r=>exact⟨r.length,rfl⟩
 generalize LL (qn x)=z1,LL (qd x)=z3,qs x=s at*;rcases hs with ⟨a,b,c⟩|⟨a,b,c⟩|⟨⟨m,a⟩,b,c⟩
 ·rw[c];subst a;subst b;simp[f98,t]
 ·rw[c];subst b;simp[f98,t,a]
 ·have hm:(0:Int)<(m:Int)+1:=ae;rw[c];subst b;simp[f98,t,a,hm]
theorem adN (x:Rat):qD (-x)=raw (if x.num.natAbs=0 then false else !qs x) (qn x) (qd x):=by
 unfold qD qn qd qs;rw[Rat.neg_num,Rat.neg_den,Int.natAbs_neg]
 congr 1
 rcases Q82 x.num 0 with h|h|h
 ·rw[if_neg ae,decide_eq_true h,decide_eq_false ae];rfl
 ·rw[if_pos ae,decide_eq_false ae]
 ·rw[if_neg ae,decide_eq_false (show ¬ x.num<0 by omega),decide_eq_true ae];rfl
theorem ZZ (x:Rat)(hx:qz x<=1000000):Ca E0 95 [.d (qD x)] (.d (qD (-x)),none):=by
 obtain⟨N,t⟩:=(iP x hx).get;refine Ca.bQ (n:=N+60) ?_;rw[aA rfl (aO 95 f95:E0.fn _=_) rfl];rw[adN];have hnil:LL (qn x)=[]↔x.num.natAbs=0:=by simp only[LL,Xr1];exact eH
 simp only[qD,raw,LD]at*;generalize LL (qd x)=z3,qs x=s at*;cases hl:LL (qn x) with
 | nil =>
  rw[if_pos (hnil.1 hl)];rw[hl]at t;simp[f95,t]
 | cons y r =>
  have:¬ x.num.natAbs=0:=by rw[<-hnil,hl];simp
  rw[if_neg this];rw[hl]at t;have hm:(0:Int)<(r.length:Int)+1:=ae;simp[f95,t,hm]
theorem ni {a b:Nat}(ha:sz a<=1000000)(hb:sz b<=1000000):Ca E0 87 [.d (LD (enc a)),.d (LD (enc b))] (.d (LD (enc (a*b))),none):=by
 unfold sz at ha hb;have:=QK (enc a) (enc b) ae ae (aV _) (aV _);simpa only[a_] using this
theorem QN {a b:Nat}(ha:sz a<=1000000)(hb:sz b<=1000000):Ca E0 90 [.d (LD (enc a)),.d (LD (enc b))] (.d (LD (enc (a+b))),none):=by
 unfold sz at ha hb;have:=Cj (enc a) (enc b) ae ae (aV _) (aV _);simpa only[a_] using this
theorem Cn {a b:Nat}(ha:sz a<=1000000)(hb:b<=a):Ca E0 92 [.d (LD (enc a)),.d (LD (enc b))] (.d (LD (enc (a-b))),none):=by
 unfold sz at ha;have:=FI (enc a) (enc b) ae (bL hb) (aV _) (aV _) (by simpa only[a_] using hb);simpa only[a_] using this
theorem Hq (x y:Rat)(hx:qz x<=100000)(hy:qz y<=100000):Ca E0 57 [.d (qD x),.d (qD y)] (.d (qD (x*y)),none):=by
 obtain⟨k1,t1⟩:=(iP x ae).any;obtain⟨k2,t2⟩:=(iP y ae).any;have hx1:sz x.num.natAbs<=100000:=Qc1 (Q01 _ _) hx;have hx2:sz x.den<=100000:=Qc1 (Qy2 _ _) hx;have hy1:sz y.num.natAbs<=100000:=Qc1 (Q01 _ _) hy;have hy2:sz y.den<=100000:=Qc1 (Qy2 _ _) hy;have b1:=fe x.num.natAbs y.num.natAbs;have b2:=fe x.den y.den;obtain⟨k3,t3⟩:=(ni (a:=x.num.natAbs) (b:=y.num.natAbs) ae ae).any;obtain⟨k4,t4⟩:=(ni (a:=x.den) (b:=y.den) ae ae).any;obtain⟨k5,t5⟩:=(Cm (s:=qs x != qs y) (n:=x.num.natAbs*y.num.natAbs) (d:=x.den*y.den) ae ae (Xc0 (den_pos x) (den_pos y))).any;rw[Hg]at t5;have d1:=fun m=>Bq m x
 have d2:=fun m=>Bq m y
 replace t1:=t1 (k1+k2+k3+k4+k5) ae;replace t2:=t2 (k1+k2+k3+k4+k5) ae;replace t3:=t3 (k1+k2+k3+k4+k5) ae;replace t4:=t4 (k1+k2+k3+k4+k5) ae;replace t5:=t5 (k1+k2+k3+k4+k5) ae;generalize k1+k2+k3+k4+k5=N at*;refine Ca.bQ (n:=N+80) ?_;rw[aA rfl (aO 57 f57:E0.fn _=_) rfl];have n1:enc x.num.natAbs=qn x:=rfl;have n2:enc y.num.natAbs=qn y:=rfl;rw[n1,n2]at t3;generalize x.num.natAbs*y.num.natAbs=n,x.den*y.den=d at*;simp only[qD,raw,LD]at*;generalize qs x=s1,qs y=s2,LL (enc x.den)=x3,LL (enc y.den)=x4,LL (qn x)=z1,LL (qn y)=z2,LL (qd x)=z3,LL (qd y)=z4,LL (enc n)=x7,LL (enc d)=x8,LL (qn (x*y))=x9,LL (qd (x*y))=y1,qs (x*y)=sg at*;simp only[bne]at t5;simp[f57,t1,t2,t3,t4,t5,d1,d2]
theorem Br (x y:Rat)(hx:qz x<=100000)(hy:qz y<=100000):Ca E0 54 [.d (qD x),.d (qD y)] (.d (qD (x+y)),none):=by
 obtain⟨k1,t1⟩:=(iP x ae).any;obtain⟨k2,t2⟩:=(iP y ae).any;have hx1:sz x.num.natAbs<=100000:=Qc1 (Q01 _ _) hx;have hx2:sz x.den<=100000:=Qc1 (Qy2 _ _) hx;have hy1:sz y.num.natAbs<=100000:=Qc1 (Q01 _ _) hy;have hy2:sz y.den<=100000:=Qc1 (Qy2 _ _) hy;have b1:=fe x.num.natAbs y.den;have b2:=fe y.num.natAbs x.den;have b3:=fe x.den y.den;have b4:=@w9 (qs x) (qs y) (x.num.natAbs*y.den) (y.num.natAbs*x.den);have d1:=fun m=>Bq m x
 have d2:=fun m=>Bq m y
 obtain⟨k3,t3⟩:=(ni (a:=x.num.natAbs) (b:=y.den) ae ae).any;obtain⟨k4,t4⟩:=(ni (a:=y.num.natAbs) (b:=x.den) ae ae).any;obtain⟨k5,t5⟩:=(ni (a:=x.den) (b:=y.den) ae ae).any;obtain⟨k6,t6⟩:=(Cm (s:=qp (qs x) (x.num.natAbs*y.den) (qs y) (y.num.natAbs*x.den)) (n:=oN (qs x) (x.num.natAbs*y.den) (qs y) (y.num.natAbs*x.den)) (d:=x.den*y.den) ae ae (Xc0 (den_pos x) (den_pos y))).any;rw[Hl]at t6;have n1:enc x.num.natAbs=qn x:=rfl;have n2:enc y.num.natAbs=qn y:=rfl;rw[n1]at t3;rw[n2]at t4;generalize x.num.natAbs*y.den=a,y.num.natAbs*x.den=b,x.den*y.den=d at*;obtain⟨k7,t7⟩:=(QN (a:=a) (b:=b) ae ae).any;obtain⟨k8,t8⟩:=(O5 a b ae ae).any
 by_cases hs:qs x=qs y
 ·have e1:qp (qs x) a (qs y) b=qs x:=by unfold qp;rw[if_pos hs]
  have e2:oN (qs x) a (qs y) b=a+b:=by unfold oN;rw[if_pos hs]
  rw[e1,e2]at t6;have hbq:(qs x==qs y)=true:=by simpa using hs
  replace t1:=t1 (k1+k2+k3+k4+k5+k6+k7) ae;replace t2:=t2 (k1+k2+k3+k4+k5+k6+k7) ae;replace t3:=t3 (k1+k2+k3+k4+k5+k6+k7) ae;replace t4:=t4 (k1+k2+k3+k4+k5+k6+k7) ae;replace t5:=t5 (k1+k2+k3+k4+k5+k6+k7) ae;replace t6:=t6 (k1+k2+k3+k4+k5+k6+k7) ae;replace t7:=t7 (k1+k2+k3+k4+k5+k6+k7) ae;generalize k1+k2+k3+k4+k5+k6+k7=N at*;refine Ca.bQ (n:=N+90) ?_;rw[aA rfl (k54:E0.fn _=_) rfl];simp only[qD,raw,LD]at*;generalize qs (x+y)=sg,qs x=s1,qs y=s2,LL (enc x.den)=x3,LL (enc y.den)=x4,LL (qn (x+y))=x9,LL (qd (x+y))=y1,LL (qn x)=z1,LL (qn y)=z2,LL (qd x)=z3,LL (qd y)=z4,LL (enc (a+b))=x5,LL (enc a)=x6,LL (enc b)=x7,LL (enc d)=x8 at*;simp[f54,t1,t2,t3,t4,t5,t6,t7,d1,d2,hbq]
 ·have hbq:(qs x==qs y)=false:=by simpa using hs
  by_cases hab:b<=a
  ·obtain⟨k9,t9⟩:=(Cn (a:=a) (b:=b) ae hab).any;have e1:qp (qs x) a (qs y) b=qs x:=by unfold qp;rw[if_neg hs,if_pos hab]
   have e2:oN (qs x) a (qs y) b=a-b:=by unfold oN;rw[if_neg hs,if_pos hab]
   rw[e1,e2]at t6;have hc:(0:Int)<=d_ a b:=by unfold d_;rw[if_neg ae];split<;>omega
   replace t1:=t1 (k1+k2+k3+k4+k5+k6+k8+k9) ae;replace t2:=t2 (k1+k2+k3+k4+k5+k6+k8+k9) ae;replace t3:=t3 (k1+k2+k3+k4+k5+k6+k8+k9) ae;replace t4:=t4 (k1+k2+k3+k4+k5+k6+k8+k9) ae;replace t5:=t5 (k1+k2+k3+k4+k5+k6+k8+k9) ae;replace t6:=t6 (k1+k2+k3+k4+k5+k6+k8+k9) ae;replace t8:=t8 (k1+k2+k3+k4+k5+k6+k8+k9) ae;replace t9:=t9 (k1+k2+k3+k4+k5+k6+k8+k9) ae;generalize k1+k2+k3+k4+k5+k6+k8+k9=N at*;refine Ca.bQ (n:=N+90) ?_;rw[aA rfl (k54:E0.fn _=_) rfl];simp only[qD,raw,LD]at*;generalize d_ a b=cc,qs (x+y)=sg,qs x=s1,qs y=s2,LL (enc x.den)=x3,LL (enc y.den)=x4,LL (qn (x+y))=x9,LL (qd (x+y))=y1,LL (qn x)=z1,LL (qn y)=z2,LL (qd x)=z3,LL (qd y)=z4,LL (enc (a-b))=x5,LL (enc a)=x6,LL (enc b)=x7,LL (enc d)=x8 at*;simp[f54,t1,t2,t3,t4,t5,t6,t8,t9,d1,d2,hbq,hc]
  ·obtain⟨k9,t9⟩:=(Cn (a:=b) (b:=a) ae ae).any;have e1:qp (qs x) a (qs y) b=qs y:=by unfold qp;rw[if_neg hs,if_neg hab]
   have e2:oN (qs x) a (qs y) b=b-a:=by unfold oN;rw[if_neg hs,if_neg hab]
   rw[e1,e2]at t6;have hc:d_ a b=-1:=by unfold d_;rw[if_pos ae]
   rw[hc]at t8;replace t1:=t1 (k1+k2+k3+k4+k5+k6+k8+k9) ae;replace t2:=t2 (k1+k2+k3+k4+k5+k6+k8+k9) ae;replace t3:=t3 (k1+k2+k3+k4+k5+k6+k8+k9) ae;replace t4:=t4 (k1+k2+k3+k4+k5+k6+k8+k9) ae;replace t5:=t5 (k1+k2+k3+k4+k5+k6+k8+k9) ae;replace t6:=t6 (k1+k2+k3+k4+k5+k6+k8+k9) ae;replace t8:=t8 (k1+k2+k3+k4+k5+k6+k8+k9) ae;replace t9:=t9 (k1+k2+k3+k4+k5+k6+k8+k9) ae;generalize k1+k2+k3+k4+k5+k6+k8+k9=N at*;refine Ca.bQ (n:=N+90) ?_;rw[aA rfl (k54:E0.fn _=_) rfl];simp only[qD,raw,LD]at*;generalize qs (x+y)=sg,qs x=s1,qs y=s2,LL (enc x.den)=x3,LL (enc y.den)=x4,LL (qn (x+y))=x9,LL (qd (x+y))=y1,LL (qn x)=z1,LL (qn y)=z2,LL (qd x)=z3,LL (qd y)=z4,LL (enc (b-a))=x5,LL (enc a)=x6,LL (enc b)=x7,LL (enc d)=x8 at*;simp[f54,t1,t2,t3,t4,t5,t6,t8,t9,d1,d2,hbq]
def seB:aF:=f101.body.r.r.l.r.bl.lp
def YX (ki:IntKind)(a b:List Int)(k:Nat)(t:FV):St:=(st0 [.d ((.s 1 (LK ki a))),.d ((.s 1 (LK ki b))),.u,.u,.u,dI a.length,dI k,t,.u] [])
def seF:St:=(st0 (.u::.u::dB false::uV) [])
theorem MI (ki:IntKind)(a b:List Int)(k:Nat)(x y:Int)(la:a.length<=1000000000)(hx:a[k]?=some x)(hy:b[k]?=some y) :
  EX E0 60 seB (YX ki a b k .u)=if x=y then some (.norm,YX ki a b (k+1) .u) else some (.ret,seF):=by
 have hk:=(aT hx)
 have hx':(LK ki a)[k]?=some (.v (.int ki x)):=by simp[LK,hx]
 have hy':(LK ki b)[k]?=some (.v (.int ki y)):=by simp[LK,hy]
 have hx2:=idx hx';have hy2:=idx hy';have aW:ak .i64 ((k:Int)+1)=(k:Int)+1:=wrap_i64 ae;have hk1:((k+1:Nat):Int)=(k:Int)+1:=ae;have hk0:(0:Int)<=(k:Int):=ae;unfold YX seF;rw[hk1];generalize LK ki a=as',LK ki b=bs' at*
 by_cases h:x=y
 ·subst h;simp[seB,f101,hk,hk0,hx',hx2,hy',hy2,aW]
 ·have hne:(x != y)=true:=by simpa using h
  rw[if_neg h];simp[seB,f101,hk,hk0,hx',hx2,hy',hy2,hne]
theorem QO (ki:IntKind)(a b:List Int)(la:a.length<=1000000000)(hl:a.length=b.length) :
  ∃ r,Ex E0 (.loop seB) (YX ki a b 0 .u) r/\((a=b/\r=(.exit 0,YX ki a b a.length (dB false)))\/(a≠b/\r=(.ret,seF))):=by
 refine Ex.inv (S:=fun k:Nat=>YX ki a b k .u) (fun k=>a.length-k) (fun k=>k<=a.length/\a.take k=b.take k) _ ?_ 0 ⟨ae,aC⟩;rintro k ⟨h1,h2⟩
 by_cases hk:k<a.length
 ·have hx:a[k]?=some (a[k]'hk):=Qa1 hk;have hy:b[k]?=some (b[k]'(by omega)):=Qa1 ae;have hr:=MI ki a b k _ _ la hx hy
  by_cases h:a[k]'hk=b[k]'(by omega)
  ·rw[if_pos h]at hr;refine .inl ⟨k+1,Ex.of hr,ae,ae,?_⟩;rw[Qp2 hk,Qp2 ae,h2,h]
  ·rw[if_neg h]at hr;refine .inr ⟨_,Ex.of hr,aC,.inr ⟨?_,rfl⟩⟩;intro he;subst he;exact h rfl
 ·have he:k=a.length:=ae;subst he;rw[Qk0,hl,Qk0]at h2;refine .inr ⟨_,Ex.of (n:=60) ?_,?_,.inl ⟨h2,rfl⟩⟩
  ·unfold YX;simp[seB,f101]
  ·simp
theorem UN (ki:IntKind)(a b:List Int)(la:a.length<=1000000000)(lb:b.length<=1000000000):Ca E0 101 [.d ((.s 1 (LK ki a))),.d ((.s 1 (LK ki b)))] (dB (decide (a=b)),none):=by
 have hla:(LK ki a).length=a.length:=by simp[LK]
 have hlb:(LK ki b).length=b.length:=by simp[LK]
 by_cases hl:a.length=b.length
 ·obtain⟨r,hr,h⟩:=QO ki a b la hl;have adP:(LK ki b).length=a.length:=ae;have UO:Ex E0 f101.body.l (st0 (.d ((.s 1 (LK ki a)))::.d ((.s 1 (LK ki b)))::rX) []) (.norm,(st0 (.d ((.s 1 (LK ki a)))::.d ((.s 1 (LK ki b)))::rX) [])):=by
   refine Ex.of (n:=40) ?_;simp[f101]
  have UQ:Ex E0 f101.body.r.l (st0 (.d ((.s 1 (LK ki a)))::.d ((.s 1 (LK ki b)))::rX) []) (.norm,(st0 (.d ((.s 1 (LK ki a)))::.d ((.s 1 (LK ki b)))::.u::.u::dB false::wW) [])):=by
   refine Ex.of (n:=40) ?_;simp[f101,hla,adP]
  have UR:Ex E0 f101.body.r.r.l.l (st0 (.d ((.s 1 (LK ki a)))::.d ((.s 1 (LK ki b)))::.u::.u::dB false::wW) []) (.norm,YX ki a b 0 .u):=by
   refine Ex.of (n:=40) ?_;unfold YX;simp[f101,hla]
  rcases h with ⟨he,rfl⟩|⟨he,rfl⟩
  ·have hd:decide (a=b)=true:=by simpa using he
   rw[hd];refine Ca.body (o:=.ret) (st1:=(st0 (.u::.u::dB true::uV) [])) rfl (k101:E0.fn _=_) rfl ?_ (by intro id h;cases h) ?_
   ·show Ex E0 (.seq f101.body.l (.seq f101.body.r.l (.seq (.seq f101.body.r.r.l.l (.block 0 (.loop seB))) f101.body.r.r.r))) _ _;refine UO.seq (UQ.seq ((UR.seq hr.block).seq (Ex.of (n:=40) ?_)));unfold YX;simp[f101]
   ·simp[f101]
  ·have hd:decide (a=b)=false:=by simpa using he
   rw[hd];refine Ca.body (o:=.ret) (st1:=seF) rfl (k101:E0.fn _=_) rfl ?_ (by intro id h;cases h) ?_
   ·show Ex E0 (.seq f101.body.l (.seq f101.body.r.l (.seq (.seq f101.body.r.r.l.l (.block 0 (.loop seB))) f101.body.r.r.r))) _ _;exact UO.seq (UQ.seq (Ex.gp (UR.seq hr.dR)))
   ·simp[f101,seF]
 ·have hd:decide (a=b)=false:=by
   simp only[decide_eq_false_iff_not];intro he;subst he;exact hl rfl
  have hne:((a.length:Int) != (b.length:Int))=true:=by simp;omega
  rw[hd];refine Ca.bQ (n:=60) ?_;rw[aA rfl (k101:E0.fn _=_) rfl];generalize LK ki a=as',LK ki b=bs' at*;simp[f101,hla,hlb,hne]
theorem JL (l:List Nat):LL l=LK .u32 (l.map fun(x:Nat)=>(x:Int)):=by simp[LL,LK]
theorem qy {a b:List Nat}:(a.map fun(x:Nat)=>(x:Int))=(b.map fun(x:Nat)=>(x:Int))↔a=b:=by
 constructor
 ·intro h;exact(X60 (fun x y h=>by exact_mod_cast h)).1 h
 ·rintro rfl;rfl
theorem O6 (a b:List Nat)(la:a.length<=1000000000)(lb:b.length<=1000000000):Ca E0 101 [.d (LD a),.d (LD b)] (dB (decide (a=b)),none):=by
 have h:=UN .u32 (a.map fun(x:Nat)=>(x:Int)) (b.map fun(x:Nat)=>(x:Int)) (by simpa using la) (by simpa using lb);have e:decide ((a.map fun(x:Nat)=>(x:Int))=(b.map fun(x:Nat)=>(x:Int)))=decide (a=b):=by simp only[qy]
 rw[e]at h;simp only[LD,JL];exact h
theorem Co (s1 s2:Bool)(a1 b1 a2 b2:List Nat)(h1:a1.length<=1000000000)(h2:b1.length<=1000000000)(h3:a2.length<=1000000000)(h4:b2.length<=1000000000) :
  Ca E0 72 [.d (raw s1 a1 b1),.d (raw s2 a2 b2)] (dB (s1==s2&&decide (a1=a2)&&decide (b1=b2)),none):=by
 obtain⟨Kq,_,t1,t2⟩:=((O6 a1 a2 h1 h3).j ((O6 b1 b2 h2 h4).any)).at 0;generalize Kq=N at*;refine Ca.bQ (n:=N+60) ?_;rw[aA rfl (aO 72 f72:E0.fn _=_) rfl];generalize decide (a1=a2)=p,decide (b1=b2)=q at*;simp only[raw,LD]at*;generalize LL a1=x1,LL a2=x2,LL b1=y1,LL b2=y2 at*;cases s1<;>cases s2<;>cases p<;>simp[f72,t1,t2]
def MJ:aF:=f78.body.r.r.l.r.bl.lp
def E9 (a b:List Nat)(k:Nat)(t:FV):St:=(st0 [.d (LD a),.d (LD b),.u,dI k,.u,t,.u] [])
def UT:St:=(st0 (.u::.u::dB false::wW) [])
theorem MK (a b:List Nat)(k x y:Nat)(la:a.length<=1000000000)(hx:a[k]?=some x)(hy:b[k]?=some y) :
  EX E0 60 MJ (E9 a b k .u)=if x=y then some (.norm,E9 a b (k+1) .u) else some (.ret,UT):=by
 have hk:=(aT hx)
 have hla:(LL a).length=a.length:=by simp[LL]
 have hx':(LL a)[k]?=some (.v (.int .u32 (x:Int))):=by simp[LL,hx]
 have hy':(LL b)[k]?=some (.v (.int .u32 (y:Int))):=by simp[LL,hy]
 have hx2:=idx hx';have hy2:=idx hy';have aW:ak .i64 ((k:Int)+1)=(k:Int)+1:=wrap_i64 ae;have hk1:((k+1:Nat):Int)=(k:Int)+1:=ae;have hk0:(0:Int)<=(k:Int):=ae;have hkb:k<(LL b).length:=by simpa[LL] using(aT hy)
 unfold E9 UT;rw[hk1];simp only[LD];generalize LL a=as',LL b=bs' at*
 by_cases h:x=y
 ·subst h;simp[MJ,f78,hla,hk,hk0,hkb,hx',hx2,hy',hy2,aW]
 ·have hne:((x:Int) != (y:Int))=true:=by simp;omega
  rw[if_neg h];simp[MJ,f78,hla,hk,hk0,hkb,hx',hx2,hy',hy2,hne]
theorem QP (a b:List Nat)(la:a.length<=1000000000)(hl:a.length=b.length) :
  ∃ r,Ex E0 (.loop MJ) (E9 a b 0 .u) r/\((a=b/\r=(.exit 0,E9 a b a.length (dB false)))\/(a≠b/\r=(.ret,UT))):=by
 refine Ex.inv (S:=fun k:Nat=>E9 a b k .u) (fun k=>a.length-k) (fun k=>k<=a.length/\a.take k=b.take k) _ ?_ 0 ⟨ae,aC⟩;rintro k ⟨h1,h2⟩
 by_cases hk:k<a.length
 ·have hx:a[k]?=some (a[k]'hk):=Qa1 hk;have hy:b[k]?=some (b[k]'(by omega)):=Qa1 ae;have hr:=MK a b k _ _ la hx hy
  by_cases h:a[k]'hk=b[k]'(by omega)
  ·rw[if_pos h]at hr;refine .inl ⟨k+1,Ex.of hr,ae,ae,?_⟩;rw[Qp2 hk,Qp2 ae,h2,h]
  ·rw[if_neg h]at hr;refine .inr ⟨_,Ex.of hr,aC,.inr ⟨?_,rfl⟩⟩;intro he;subst he;exact h rfl
 ·have he:k=a.length:=ae;subst he;have hla:(LL a).length=a.length:=by simp[LL]
  rw[Qk0,hl,Qk0]at h2;refine .inr ⟨_,Ex.of (n:=60) ?_,?_,.inl ⟨h2,rfl⟩⟩
  ·unfold E9;simp only[LD];generalize LL a=as' at*;generalize LL b=bs' at*;generalize a.length=m at*;simp[MJ,f78,hla]
  ·simp
theorem O7 (a b:List Nat)(la:a.length<=1000000000)(lb:b.length<=1000000000):Ca E0 78 [.d (LD a),.d (LD b)] (dB (decide (a=b)),none):=by
 have hla:(LL a).length=a.length:=by simp[LL]
 have hlb:(LL b).length=b.length:=by simp[LL]
 by_cases hl:a.length=b.length
 ·obtain⟨r,hr,h⟩:=QP a b la hl;have adP:(LL b).length=a.length:=ae;have UO:Ex E0 f78.body.l (st0 (.d (LD a)::.d (LD b)::n_) []) (.norm,(st0 (.d (LD a)::.d (LD b)::n_) [])):=by
   refine Ex.of (n:=40) ?_;simp[f78]
  have UQ:Ex E0 f78.body.r.l (st0 (.d (LD a)::.d (LD b)::n_) []) (.norm,(st0 [.d (LD a),.d (LD b),.u,.u,dB false,.u,.u] [])):=by
   refine Ex.of (n:=40) ?_;simp[f78,LD,hla,adP]
  have UR:Ex E0 f78.body.r.r.l.l (st0 [.d (LD a),.d (LD b),.u,.u,dB false,.u,.u] []) (.norm,E9 a b 0 .u):=by
   refine Ex.of (n:=40) ?_;unfold E9;simp[f78,LD,hla]
  rcases h with ⟨he,rfl⟩|⟨he,rfl⟩
  ·have hd:decide (a=b)=true:=by simpa using he
   rw[hd];refine Ca.body (o:=.ret) (st1:=(st0 (.u::.u::dB true::wW) [])) rfl (k78:E0.fn _=_) rfl ?_ (by intro id h;cases h) ?_
   ·show Ex E0 (.seq f78.body.l (.seq f78.body.r.l (.seq (.seq f78.body.r.r.l.l (.block 0 (.loop MJ))) f78.body.r.r.r))) _ _;refine UO.seq (UQ.seq ((UR.seq hr.block).seq (Ex.of (n:=40) ?_)));unfold E9;simp[f78]
   ·simp[f78]
  ·have hd:decide (a=b)=false:=by simpa using he
   rw[hd];refine Ca.body (o:=.ret) (st1:=UT) rfl (k78:E0.fn _=_) rfl ?_ (by intro id h;cases h) ?_
   ·show Ex E0 (.seq f78.body.l (.seq f78.body.r.l (.seq (.seq f78.body.r.r.l.l (.block 0 (.loop MJ))) f78.body.r.r.r))) _ _;exact UO.seq (UQ.seq (Ex.gp (UR.seq hr.dR)))
   ·simp[f78,UT]
 ·have hd:decide (a=b)=false:=by
   simp only[decide_eq_false_iff_not];intro he;subst he;exact hl rfl
  have hne:((a.length:Int) != (b.length:Int))=true:=by simp;omega
  rw[hd];refine Ca.bQ (n:=60) ?_;rw[aA rfl (k78:E0.fn _=_) rfl];simp only[LD];generalize LL a=as',LL b=bs' at*;simp[f78,hla,hlb,hne]
theorem nu (s1 s2:Bool)(a1 b1 a2 b2:List Nat)(h1:a1.length<=1000000000)(h2:b1.length<=1000000000)(h3:a2.length<=1000000000)(h4:b2.length<=1000000000) :
  Ca E0 39 [.d (raw s1 a1 b1),.d (raw s2 a2 b2)] (dB (s1==s2&&decide (a1=a2)&&decide (b1=b2)),none):=by
 obtain⟨Kq,_,t1,t2⟩:=((O7 a1 a2 h1 h3).j ((O7 b1 b2 h2 h4).any)).at 0;generalize Kq=N at*;refine Ca.bQ (n:=N+60) ?_;rw[aA rfl (aO 39 f39:E0.fn _=_) rfl];generalize decide (a1=a2)=p,decide (b1=b2)=q at*;simp only[raw,LD]at*;generalize LL a1=x1,LL a2=x2,LL b1=y1,LL b2=y2 at*;cases s1<;>cases s2<;>cases p<;>simp[f39,t1,t2]
theorem Z0 (x y:Rat)(hx:qz x<=100000)(hy:qz y<=100000):Ca E0 62 [.d (qD x),.d (qD y)] (.d (qD (x-y)),none):=by
 obtain⟨Kq,_,t1,t2⟩:=((ZZ y ae).j ((Br x (-y) hx (by rw[adG];omega)).any)).at 0;rw[<-Rat.sub_eq_add_neg]at t2;generalize Kq=N at*;refine Ca.bQ (n:=N+60) ?_;rw[aA rfl (aO 62 f62:E0.fn _=_) rfl];simp only[qD,raw,LD]at*;generalize qs (x-y)=sg,qs (-y)=s3,qs x=s1,qs y=s2,LL (qn (x-y))=x9,LL (qd (x-y))=y1,LL (qn (-y))=x8,LL (qd (-y))=y8,LL (qn x)=z1,LL (qn y)=z2,LL (qd x)=z3,LL (qd y)=z4 at*;simp[f62,t1,t2]
theorem JM (x y:Rat)(hx:qz x<=100000)(hy:qz y<=100000):Ca E0 93 [.d (qD x),.d (qD y)] (dI (x-y).num.sign,none):=by
 obtain⟨k1,t1⟩:=(Z0 x y hx hy).any;have:=UE x y;obtain⟨k2,t2⟩:=(ng (x-y) ae).any;replace t1:=t1 (k1+k2) ae;replace t2:=t2 (k1+k2) ae;generalize k1+k2=N at*;refine Ca.bQ (n:=N+60) ?_;rw[aA rfl (aO 93 f93:E0.fn _=_) rfl];generalize (x-y).num.sign=res at*;simp only[qD,raw,LD]at*;generalize qs (x-y)=sg,qs x=s1,qs y=s2,LL (qn (x-y))=x9,LL (qd (x-y))=y1,LL (qn x)=z1,LL (qn y)=z2,LL (qd x)=z3,LL (qd y)=z4 at*;simp[f93,t1,t2]
theorem JN (x y:Rat):((x-y).num.sign<0↔x<y)/\(0<(x-y).num.sign↔y<x):=by
 have h1:=Rat.lt_iff_sub_pos x y;have h2:=Rat.lt_iff_sub_pos y x;have p:∀ z:Rat,0<z↔0<z.num:=by
  intro z;constructor
  ·intro h;have a:=Rat.num_nonneg.2 (Rat.le_of_lt h);have b:z.num≠0:=by
    intro e;rw[Rat.num_eq_zero.1 e]at h;exact absurd h bS
   omega
  ·intro h;have a:=Rat.num_nonneg.1 (show 0<=z.num by omega);have b:z≠0:=by
    intro e;rw[e]at h;exact absurd h bS
   exact Rat.lt_of_le_of_ne a (Ne.symm b)
 have e:(y-x).num=-(x-y).num:=by
  rw[<-Rat.neg_num]
  congr 1
  grind
 rw[p,e]at h1;rw[p]at h2;rw[h1,h2];rcases Q82 (x-y).num 0 with h|h|h
 ·rw[Q30 h];omega
 ·rw[h];simp
 ·rw[Q81 h];omega
theorem Cq (x y:Rat)(hx:qz x<=100000)(hy:qz y<=100000):Ca E0 55 [.d (qD x),.d (qD y)] (dB (decide (x<y)),none):=by
 obtain⟨N,t⟩:=(JM x y hx hy).get;have e:decide ((x-y).num.sign<0)=decide (x<y):=by simp only[(JN x y).1]
 rw[<-e];refine Ca.bQ (n:=N+60) ?_;rw[aA rfl (aO 55 f55:E0.fn _=_) rfl];generalize (x-y).num.sign=res at*;simp only[qD,raw,LD]at*;generalize qs x=s1,qs y=s2,LL (qn x)=z1,LL (qn y)=z2,LL (qd x)=z3,LL (qd y)=z4 at*;simp[f55,t]
theorem xm (n:Nat)(v:Int)(hv:-9223372036854775808<=v/\v<9223372036854775808):CL E0 (n+40) 107 [dI v] []=some (.d (.v (.int .u64 v.natAbs)),none):=by
 rw[aA rfl (aO 107 f107:E0.fn _=_) rfl]
 by_cases h:v<0
 ·have w1:ak .i64 (v+1)=v+1:=wrap_i64 ae;have w2:IntKind.wrap .i64 (-(v+1))=-(v+1):=by rw[<-cZ];exact wrap_i64 ae
  have w3:ak .u64 (-(v+1))=-(v+1):=wrap_u64 ae;have w4:ak .u64 (-(v+1)+1)=(v.natAbs:Int):=by rw[wrap_u64 ae];omega
  generalize v.natAbs=va at*;simp[f107,h,w1,w2,w3,w4]
 ·have w1:ak .u64 v=(v.natAbs:Int):=by rw[gP];omega
  generalize v.natAbs=va at*;simp[f107,h,w1]
theorem Cr (v:Nat)(hv:v<18446744073709551616):Ca E0 106 [.d (.v (.int .u64 v))] (.d (LD (enc v)),none):=by
 obtain⟨n0,hc⟩:=(xe [v % 4294967296,v / 4294967296] aC).get;rw[O4 hv]at hc;have w2:ak .u32 (v:Int)=((v % 4294967296:Nat):Int):=by rw[dU];omega
 have w3:Int.fdiv (v:Int) 4294967296=((v / 4294967296:Nat):Int):=by
  rw[Ql2 _ ae];omega
 have w4:ak .u32 ((v / 4294967296:Nat):Int)=((v / 4294967296:Nat):Int):=wrap_u32 ae;refine Ca.bQ (n:=n0+60) ?_;rw[aA rfl (aO 106 f106:E0.fn _=_) rfl];simp only[LD,LL,Qe2,Qc2]at hc ⊢;generalize List.map (fun(x:Nat)=>D.v (Value.int IntKind.u32 (x:Int))) (enc v)=res at*;generalize v / 4294967296=hi,v % 4294967296=lo at*;simp[IntKind.bits,f106,w2,w3,w4,hc]
theorem UU (a b:Int)(ha:-9223372036854775808<=a/\a<9223372036854775808)(hb:-9223372036854775808<=b/\b<9223372036854775808)(h0:b≠0) :
  Ca E0 77 [dI a,dI b] (.d (.t [qD (sw a b),vI 0]),none):=by
 have l1:=Hm ha;have l2:=Hm hb;have a1:=fun m=>xm m a ha
 have a2:=fun m=>xm m b hb
 obtain⟨Kq,_,t1,t2,t3⟩:=((Cr a.natAbs ae).j ((Cr b.natAbs ae).j ((Cm (s:=decide (a<0) != decide (b<0)) (n:=a.natAbs) (d:=b.natAbs) ae ae ae).any))).at 0;have e:wZ (decide (a<0) != decide (b<0)) a.natAbs b.natAbs=sw a b:=rfl;rw[e]at t3;generalize Kq=N at*;refine Ca.bQ (n:=N+80) ?_;rw[aA rfl (aO 77 f77:E0.fn _=_) rfl];have hb0:(b==0)=false:=by simpa using h0
 simp only[qD,raw,LD]at*;generalize LL (qn (sw a b))=x9,LL (qd (sw a b))=y1,qs (sw a b)=sg,LL (enc a.natAbs)=x1,LL (enc b.natAbs)=x2 at*;generalize a.natAbs=na,b.natAbs=nb at*;simp only[bne]at t3;simp[f77,rH,a1,a2,t1,t2,t3,hb0]
theorem Cs (a b:Int)(ha:-9223372036854775808<=a/\a<9223372036854775808)(hb:-9223372036854775808<=b/\b<9223372036854775808)(h0:b≠0) :
  Ca E0 38 [dI a,dI b] (.d (qD (sw a b)),none):=by
 obtain⟨N,t⟩:=(UU a b ha hb h0).get;refine Ca.bQ (n:=N+80) ?_;rw[aA rfl (aO 38 f38:E0.fn _=_) rfl];simp only[qD,raw,LD]at*;generalize LL (qn (sw a b))=x9,LL (qd (sw a b))=y1,qs (sw a b)=sg at*;simp[f38,rH,t]
end Fi.S
