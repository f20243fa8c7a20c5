import Derived.Test.YtgngjdakilfmoaaGreatDoorCC
set_option linter.unusedVariables false
set_option linter.unusedSimpArgs false
noncomputable section
namespace Fi.S
open Go Fi
set_option maxHeartbeats 8000000
def kF (e:Int × Int × Int):D:=.a [vI e.1,vI e.2.1,vI e.2.2]
def ib (x:Int):Prop:=-9223372036854775808<=x/\x<9223372036854775808
noncomputable def uY (e:Int × Int × Int):Int:=ak .i64 (ak .i64 (ak .i64 (0+e.1)+e.2.1)+e.2.2)
theorem Ct (n:Nat)(e:Int × Int × Int):CL E0 (n+100) 254 [.d (kF e)] []=some (dI (uY e),none):=by
 rw[aA rfl (aO 254 f254:E0.fn _=_) rfl];obtain⟨a,b,c⟩:=e;simp only[kF,uY];have w1:ak .i64 1=1:=wrap_i64 ae;have w2:ak .i64 2=2:=wrap_i64 ae;have w3:ak .i64 3=3:=wrap_i64 ae;simp[f254,aD,w1,w2,w3]
def f_ (x y:Int):Int:=if x<y then -1 else if y<x then 1 else 0
theorem pG (n:Nat)(x y:Int):CL E0 (n+60) 255 [dI x,dI y] []=some (dI (f_ x y),none):=by
 have ML:∀ m z,CL E0 (m+20) 282 [dI z] []=some (dB false,none):=by
  intro m z;rw[aA rfl (k282:E0.fn _=_) rfl];simp[f282]
 rw[aA rfl (k255:E0.fn _=_) rfl];unfold f_
 by_cases h1:x<y
 ·simp[f255,ML,h1]
 ·by_cases h2:y<x
  ·simp[f255,ML,h1,h2]
  ·simp[f255,ML,h1,h2]
def jr (d e:Int × Int × Int):Int :=
 if f_ e.1 d.1≠0 then f_ e.1 d.1 else if f_ e.2.1 d.2.1≠0 then f_ e.2.1 d.2.1 else f_ e.2.2 d.2.2
theorem MM (n:Nat)(d e:Int × Int × Int):CL E0 (n+200) 204 [.d (kF d),.d (kF e)] []=some (dI (jr d e),none):=by
 obtain⟨a,b,c⟩:=d;obtain⟨a',b',c'⟩:=e;have c1:=fun m=>pG m a' a
 have c2:=fun m=>pG m b' b
 have c3:=fun m=>pG m c' c
 rw[aA rfl (k204:E0.fn _=_) rfl];simp only[kF,jr];have w1:ak .i64 1=1:=wrap_i64 ae;have w2:ak .i64 2=2:=wrap_i64 ae;have w3:ak .i64 3=3:=wrap_i64 ae;generalize f_ a' a=x,f_ b' b=y,f_ c' c=z at*
 by_cases h1:x=0
 ·subst h1
  by_cases h2:y=0
  ·subst h2
   by_cases h3:z=0
   ·subst h3;simp[f204,aD,w1,w2,w3,c1,c2,c3]
   ·have e3:(z != 0)=true:=by simpa using h3
    simp[f204,aD,w1,w2,c1,c2,c3,e3]
  ·have e2:(y != 0)=true:=by simpa using h2
   simp[f204,aD,w1,c1,c2,e2,h2]
 ·have e1:(x != 0)=true:=by simpa using h1
  simp[f204,aD,c1,e1,h1]
structure Mo where
 e:Int × Int × Int
 s:Bool
 a:List Nat
 b:List Nat
def Mo.d (m:Mo):D:=.a [vI m.e.1,vI m.e.2.1,vI m.e.2.2,vB m.s,LD m.a,LD m.b]
def Mo.ok (m:Mo):Prop:=bY m.a/\bY m.b/\m.a.length<=1000/\m.b.length<=1000
def lJ (x:Int):Bool := !(decide (x<0)||decide (5<x))
def bI (e:Int × Int × Int):Bool:=lJ e.1&&lJ e.2.1&&lJ e.2.2&&decide (e.1+e.2.1+e.2.2<=5)
def Mo.fits (m:Mo):Bool:=bI m.e&&(ek m.s m.a m.b&&decide (m.a≠[]))
theorem vV {e:Int × Int × Int}(h1:lJ e.1=true)(h2:lJ e.2.1=true)(h3:lJ e.2.2=true):uY e=e.1+e.2.1+e.2.2:=by
 simp only[lJ,Qt1,Bool.or_eq_false_iff,decide_eq_false_iff_not]at h1 h2 h3;unfold uY;rw[wrap_i64 (z:=0+e.1) ae,wrap_i64 (z:=0+e.1+e.2.1) ae,wrap_i64 ae];omega
theorem Z4 (m:Mo)(hm:m.ok):Ca E0 203 [.d m.d] (dB m.fits,none):=by
 obtain⟨e,s,a,b⟩:=m;obtain⟨ha,hb,la,lb⟩:=hm;simp only at ha hb la lb;obtain⟨k1,t1⟩:=(yR s a b ae ae ha hb).any;have w1:ak .i64 1=1:=wrap_i64 ae;have w2:ak .i64 2=2:=wrap_i64 ae;have w3:ak .i64 3=3:=wrap_i64 ae;have hdg:=fun n=>Ct n e
 obtain⟨x,y,z⟩:=e;simp only[Mo.d,Mo.fits,bI,kF]at*;have ex:∀ u:Int,(lJ u=true/\¬ u<0/\¬ 5<u)\/(lJ u=false/\u<0)\/(lJ u=false/\¬ u<0/\5<u):=by
  intro u;unfold lJ
  by_cases h1:u<0
  ·simp[h1]
  ·by_cases h2:5<u
   ·simp[h1,h2]
   ·simp[h1,h2]
 rcases ex x with ⟨q1,a1,a2⟩|⟨q1,a1⟩|⟨q1,a1,a2⟩
 ·rcases ex y with ⟨q2,b1,b2⟩|⟨q2,b1⟩|⟨q2,b1,b2⟩
  ·rcases ex z with ⟨q3,c1,c2⟩|⟨q3,c1⟩|⟨q3,c1,c2⟩
   ·rw[vV q1 q2 q3]at hdg;rw[q1,q2,q3];simp only[Qs1]
    by_cases hd:x+y+z<=5
    ·rw[decide_eq_true hd];cases hv:ek s a b
     ·rw[hv]at t1;replace t1:=t1 k1 ae;refine Ca.bQ (n:=k1+200) ?_;rw[aA rfl (k203:E0.fn _=_) rfl];simp only[raw,LD]at*;generalize LL a=as',LL b=bs',x+y+z=deg at*;simp[f203,aD,w1,w2,w3,a1,a2,b1,b2,c1,c2,hdg,hd,t1]
     ·rw[hv]at t1;have hq:=uC ha hb hv;have hz:=xk ha hb 1000 la lb ae hv;obtain⟨k2,t2⟩:=(w_ (cB s a b) ae).any;rw[<-hq]at t2;have hsg:((cB s a b).num.sign != 0)=decide (a≠[]):=by
       have e1:qn (cB s a b)=a:=by
        have:=hq;simp only[raw,qD,D.a.injEq,Xt0,LD,D.s.injEq,true_and]at this;have h3:=this.2.1;have h4:LL a=LL (qn (cB s a b)):=h3;rw[JL,JL]at h4;have h5:(a.map fun(x:Nat)=>(x:Int))=((qn (cB s a b)).map fun(x:Nat)=>(x:Int)):=by
         unfold LK at h4;exact(X60 (fun p q hpq=>by simpa using hpq)).1 h4
        exact(qy.1 h5).symm
       have e2:a=[]↔(cB s a b).num=0:=by
        have h6:qn (cB s a b)=[]↔(cB s a b).num=0:=by unfold qn;rw[eH,Xu0]
        rwa [e1]at h6
       by_cases h0:(cB s a b).num=0
       ·have h1:¬ (a≠[]):=fun h=>h (e2.2 h0)
        rw[decide_eq_false h1,h0];rfl
       ·have h1:¬ a=[]:=fun h=>h0 (e2.1 h)
        have h2:(cB s a b).num.sign≠0:=fun h=>h0 (Q91.1 h)
        simp[h1,h2]
      replace t1:=t1 (k1+k2) ae;replace t2:=t2 (k1+k2) ae;rw[<-hsg];generalize k1+k2=N at*;clear hq;generalize (cB s a b).num.sign=sg at*;refine Ca.bQ (n:=N+200) ?_;rw[aA rfl (k203:E0.fn _=_) rfl];simp only[raw,LD]at*;generalize LL a=as',LL b=bs',x+y+z=deg at*;simp[f203,aD,w1,w2,w3,a1,a2,b1,b2,c1,c2,hdg,hd,t1,t2]
    ·rw[decide_eq_false hd];refine Ca.bQ (n:=300) ?_;rw[aA rfl (k203:E0.fn _=_) rfl];simp only[LD]at*;generalize LL a=as',LL b=bs',x+y+z=deg at*;simp[f203,aD,w1,w2,w3,a1,a2,b1,b2,c1,c2,hdg,hd]
   ·rw[q3];refine Ca.bQ (n:=300) ?_;rw[aA rfl (k203:E0.fn _=_) rfl];simp only[LD]at*;simp[f203,aD,w1,w2,a1,a2,b1,b2,c1]
   ·rw[q3];refine Ca.bQ (n:=300) ?_;rw[aA rfl (k203:E0.fn _=_) rfl];simp only[LD]at*;simp[f203,aD,w1,w2,a1,a2,b1,b2,c1,c2]
  ·rw[q2];refine Ca.bQ (n:=300) ?_;rw[aA rfl (k203:E0.fn _=_) rfl];simp only[LD]at*;simp[f203,aD,w1,a1,a2,b1]
  ·rw[q2];refine Ca.bQ (n:=300) ?_;rw[aA rfl (k203:E0.fn _=_) rfl];simp only[LD]at*;simp[f203,aD,w1,a1,a2,b1,b2]
 ·rw[q1];refine Ca.bQ (n:=300) ?_;rw[aA rfl (k203:E0.fn _=_) rfl];simp only[LD]at*;simp[f203,aD,a1]
 ·rw[q1];refine Ca.bQ (n:=300) ?_;rw[aA rfl (k203:E0.fn _=_) rfl];simp only[LD]at*;simp[f203,aD,a1,a2]
def PD (l:List Mo):D:=.s 6 (l.map Mo.d)
def z_:Option Mo->List Mo->Bool
 | _,[]=>true
 | none,m::r=>m.fits&&z_ (some m) r
 | some q,m::r=>m.fits&&decide (jr q.e m.e<0)&&z_ (some m) r
def sN:Option Mo->Mo->Bool
 | none,_=>true
 | some q,m=>decide (jr q.e m.e<0)
def Po (l:List Mo):Prop:=(∀ m ∈ l,m.ok)/\l.length<=1000000
def Z5:aF:=f150.body.r.l.r.bl.lp
def YY (l:List Mo)(k:Nat)(bs:List ah)(t:FV):St:=(st0 [.d (PD l),.u,.u,.u,.d (PD l),dI l.length,dI k,t,.u] bs)
def pvF (bs:List ah):St:=(st0 (.u::dB false::rX) bs)
theorem xn {α:Type}{bs:List α}{k:Nat}{o:α}(h:bs.length=k):(bs++[o])[k]?=some o:=by subst h;simp
theorem xw {α:Type}{bs:List α}{k:Nat}{o o':α}(h:bs.length=k):(bs++[o]).set k o'=bs++[o']:=by subst h;simp
theorem UW (l:List Mo)(k:Nat)(bs:List ah)(m:Mo)(hl:Po l)(hk:l[k]?=some m)(hb:bs.length=k) :
  ∃ bs',bs'.length=k+1/\Ex E0 Z5 (YY l k bs .u) (if m.fits&&sN (if k=0 then none else l[k-1]?) m then(.norm,YY l (k+1) bs' .u) else(.ret,pvF bs')):=by
 have ajO:=hl.1 m (Qa2 hk);have hkl:k<l.length:=(aT hk)
 have hll:=hl.2;obtain⟨N,hf⟩:=(Z4 m ajO).get;have hes:(l.map Mo.d)[k]?=some m.d:=by simp[hk]
 have hlen:(l.map Mo.d).length=l.length:=aC;have aW:ak .i64 ((k:Int)+1)=(k:Int)+1:=wrap_i64 ae;have hk1:((k+1:Nat):Int)=(k:Int)+1:=ae;have hk0:(0:Int)<=(k:Int):=ae;have hg:=fun(o:ah)=>xn (o:=o) hb
 have hs:=fun(o o':ah)=>xw (o:=o) (o':=o') hb
 refine⟨bs++[.box (m.d.cells.map .d)],by simp[hb],Ex.of (n:=N+300) ?_⟩;unfold YY pvF;rw[hk1];simp only[PD];cases hfit:m.fits
 ·rw[hfit]at hf;obtain⟨e,s,a,b⟩:=m;simp only[Mo.d]at*;generalize LL a=x1,LL b=x2 at*;simp only[LD]at*;generalize List.map Mo.d l=es at*;have i1:=idx hes;simp[Z5,f150,hkl,hk0,hes,i1,hlen,hb,hg,hs,hf]
 ·rw[hfit]at hf
  by_cases hz:k=0
  ·subst hz;rw[if_pos rfl];simp only[sN];obtain⟨e,s,a,b⟩:=m;simp only[Mo.d]at*;generalize LL a=x1,LL b=x2 at*;simp only[LD]at*;generalize List.map Mo.d l=es at*;have i1:=idx hes;have w1:ak .i64 1=1:=wrap_i64 ae;simp[Z5,f150,hkl,hes,i1,hlen,hb,hg,hs,hf,w1]
  ·rw[if_neg hz];obtain⟨q,hq⟩:∃ q,l[k-1]?=some q:=⟨l[k-1]'(by omega),Qa1 ae⟩
   rw[hq];have UX:(l.map Mo.d)[k-1]?=some q.d:=by simp[hq]
   have UY:=fun n=>MM n q.e m.e
   have hdec:ak .i64 ((k:Int)-1)=((k-1:Nat):Int):=by rw[wrap_i64 ae];omega
   have hkp:(0:Int)<(k:Int):=ae;have UZ:0<k:=ae;have U0:k-1<l.length:=ae;have hd:decide (jr q.e m.e<0) = !decide (0<=jr q.e m.e):=by rw[<-decide_not];simp only[Int.not_le]
   simp only[sN,hd];obtain⟨e,s,a,b⟩:=m;obtain⟨e',s',a',b'⟩:=q;simp only[Mo.d,kF]at*;generalize jr e' e=og,LL a=x1,LL b=x2 at*;generalize LL a'=x3,LL b'=x4 at*;simp only[LD]at*;generalize List.map Mo.d l=es at*;have i1:=idx hes;have i2:=idx UX;generalize k-1=k' at*
   by_cases hog:0<=og
   ·simp[Z5,f150,hkl,hk0,UZ,hes,i1,UX,i2,hlen,hb,hg,hs,hf,UY,hdec,U0,hog]
   ·simp[Z5,f150,hkl,hk0,UZ,hes,i1,UX,i2,hlen,hb,hg,hs,hf,UY,hdec,U0,hog,aW]
theorem JO (l:List Mo)(k:Nat)(m:Mo)(hk:l[k]?=some m) :
  z_ (if k=0 then none else l[k-1]?) (l.drop k)=(m.fits&&sN (if k=0 then none else l[k-1]?) m&&z_ (some m) (l.drop (k+1))):=by
 have hkl:=(aT hk)
 have hd:l.drop k=m::l.drop (k+1):=by
  rw[Qj2 hkl];rw[Qa1 hkl]at hk;rw[Qy0 hk]
 rw[hd];cases (if k=0 then none else l[k-1]?) with
 | none=>simp[z_,sN]
 | some q=>simp[z_,sN]
theorem Z6 (l:List Mo)(hl:Po l) :
  ∃ r,Ex E0 (.loop Z5) (YY l 0 [] .u) r/\((z_ none l=true/\∃ bs,r=(.exit 0,YY l l.length bs (dB false)))\/(z_ none l=false/\∃ bs,r=(.ret,pvF bs))):=by
 refine Ex.inv (S:=fun t:Nat × List ah=>YY l t.1 t.2 .u) (fun t=>l.length-t.1) (fun t=>t.1<=l.length/\t.2.length=t.1/\z_ none l=z_ (if t.1=0 then none else l[t.1-1]?) (l.drop t.1)) _ ?_ (0,[]) ⟨aC,rfl,aC⟩;rintro⟨k,bs⟩ ⟨h1,h2,h3⟩;simp only at h1 h2 h3
 by_cases hk:k<l.length
 ·have hm:l[k]?=some (l[k]'hk):=Qa1 hk;generalize l[k]'hk=m at hm;obtain⟨bs',hb',hr⟩:=UW l k bs m hl hm h2;rw[JO l k m hm]at h3;cases hc:(m.fits&&sN (if k=0 then none else l[k-1]?) m)
  ·rw[hc]at hr h3;exact .inr ⟨_,hr,aC,.inr ⟨by simpa using h3,bs',rfl⟩⟩
  ·rw[hc]at hr h3;refine .inl ⟨(k+1,bs'),hr,by simp only;omega,by simp only;omega,hb',?_⟩;rw[h3,if_neg aC,Qs1];simp only[Qw2,hm]
 ·have he:k=l.length:=ae;subst he;rw[Qv1]at h3;refine .inr ⟨_,Ex.of (n:=60) ?_,?_,.inl ⟨?_,bs,rfl⟩⟩
  ·unfold YY;generalize PD l=p at*;simp[Z5,f150]
  ·simp
  ·rw[h3];cases (if l.length=0 then none else l[l.length-1]?)<;>simp[z_]
theorem FL (l:List Mo)(hl:Po l):Ca E0 150 [.d (PD l)] (dB (z_ none l),none):=by
 obtain⟨r,hr,h⟩:=Z6 l hl;have hlen:(l.map Mo.d).length=l.length:=aC;have hA:Ex E0 f150.body.l (st0 (.d (PD l)::zW) []) (.norm,(st0 (.d (PD l)::zW) [])):=by
  refine Ex.of (n:=40) ?_;generalize PD l=p at*;simp[f150]
 have hB:Ex E0 f150.body.r.l.l (st0 (.d (PD l)::zW) []) (.norm,YY l 0 [] .u):=by
  refine Ex.of (n:=40) ?_;unfold YY;simp only[PD];generalize List.map Mo.d l=es at*;simp[f150,hlen]
 rcases h with ⟨hv,bs,rfl⟩|⟨hv,bs,rfl⟩
 ·rw[hv];refine Ca.body (o:=.ret) (st1:=(st0 (.u::dB true::rX) bs)) rfl (k150:E0.fn _=_) rfl ?_ (by intro id h;cases h) ?_
  ·show Ex E0 (.seq f150.body.l (.seq (.seq f150.body.r.l.l (.block 0 (.loop Z5))) f150.body.r.r)) _ _;refine hA.seq ((hB.seq hr.block).seq (Ex.of (n:=40) ?_));unfold YY;generalize PD l=p at*;simp[f150]
  ·simp[f150]
 ·rw[hv];refine Ca.body (o:=.ret) (st1:=pvF bs) rfl (k150:E0.fn _=_) rfl ?_ (by intro id h;cases h) ?_
  ·show Ex E0 (.seq f150.body.l (.seq (.seq f150.body.r.l.l (.block 0 (.loop Z5))) f150.body.r.r)) _ _;exact hA.seq (hB.seq hr.dR).gp
  ·simp[f150,pvF]
theorem sO (u:Int):(lJ u=true/\¬ u<0/\¬ 5<u/\0<=u/\u<=5)\/(lJ u=false/\u<0)\/(lJ u=false/\¬ u<0/\5<u):=by
 unfold lJ
 by_cases h1:u<0
 ·simp[h1]
 ·by_cases h2:5<u
  ·simp[h1,h2]
  ·refine .inl ⟨by simp[h1,h2],h1,h2,ae,ae⟩
theorem qA (n:Nat)(e:Int × Int × Int):CL E0 (n+300) 167 [.d (kF e)] []=some (dB (bI e),none):=by
 rw[aA rfl (aO 167 f167:E0.fn _=_) rfl];obtain⟨x,y,z⟩:=e;simp only[kF,bI];have w1:ak .i64 1=1:=wrap_i64 ae;have w2:ak .i64 2=2:=wrap_i64 ae;have w3:ak .i64 3=3:=wrap_i64 ae;rcases sO x with ⟨q1,a1,a2,a3,a4⟩|⟨q1,a1⟩|⟨q1,a1,a2⟩
 ·have u1:ak .i64 x=x:=wrap_i64 ae;rcases sO y with ⟨q2,b1,b2,b3,b4⟩|⟨q2,b1⟩|⟨q2,b1,b2⟩
  ·have u2:ak .i64 (x+y)=x+y:=wrap_i64 ae;rcases sO z with ⟨q3,c1,c2,c3,c4⟩|⟨q3,c1⟩|⟨q3,c1,c2⟩
   ·have u3:ak .i64 (x+y+z)=x+y+z:=wrap_i64 ae;rw[q1,q2,q3];simp[f167,aD,w1,w2,w3,a1,a2,b1,b2,c1,c2,u1,u2,u3]
   ·rw[q3];simp[f167,aD,w1,w2,a1,a2,b1,b2,c1,u1,u2]
   ·rw[q3];simp[f167,aD,w1,w2,a1,a2,b1,b2,c1,c2,u1,u2]
  ·rw[q2];simp[f167,aD,w1,a1,a2,b1,u1]
  ·rw[q2];simp[f167,aD,w1,a1,a2,b1,b2,u1]
 ·rw[q1];simp[f167,aD,a1]
 ·rw[q1];simp[f167,aD,a1,a2]
theorem kM (n:Nat)(d e:Int × Int × Int):CL E0 (n+200) 168 [.d (kF e),.d (kF d)] []=some (dI (jr d e),none):=by
 rw[aA rfl (aO 168 f168:E0.fn _=_) rfl];obtain⟨a,b,c⟩:=d;obtain⟨a',b',c'⟩:=e;simp only[kF,jr,f_];have w1:ak .i64 1=1:=wrap_i64 ae;have w2:ak .i64 2=2:=wrap_i64 ae;have w3:ak .i64 3=3:=wrap_i64 ae;rcases Q82 a' a with h|h|h
 ·have e1:(a' != a)=true:=by simp;omega
  simp[f168,aD,h,e1]
 ·subst h;rcases Q82 b' b with h|h|h
  ·have e1:(b' != b)=true:=by simp;omega
   simp[f168,aD,w1,h,e1]
  ·subst h;rcases Q82 c' c with h|h|h
   ·have e1:(c' != c)=true:=by simp;omega
    simp[f168,aD,w1,w2,h,e1]
   ·subst h;simp[f168,aD,w1,w2,w3]
   ·have e1:(c' != c)=true:=by simp;omega
    have e2:¬ c'<c:=ae;simp[f168,aD,w1,w2,h,e1,e2]
  ·have e1:(b' != b)=true:=by simp;omega
   have e2:¬ b'<b:=ae;simp[f168,aD,w1,h,e1,e2]
 ·have e1:(a' != a)=true:=by simp;omega
  have e2:¬ a'<a:=ae;simp[f168,aD,h,e1,e2]
def U1:aF:=f99.body.r.l.r.bl.lp
def YZ (l:List Mo)(k:Nat)(t:FV):St:=(st0 [.d (PD l),.u,dI k,t,.u] [])
def qvF:St:=(st0 (.u::dB false::u3K) [])
theorem U2 (l:List Mo)(k:Nat)(m:Mo)(hl:Po l)(hk:l[k]?=some m) :
  Ex E0 U1 (YZ l k .u) (if m.fits&&sN (if k=0 then none else l[k-1]?) m then(.norm,YZ l (k+1) .u) else(.ret,qvF)):=by
 obtain⟨ha,hb,la,lb⟩:=hl.1 m (Qa2 hk);have hkl:k<l.length:=(aT hk)
 have hll:=hl.2;have hp:=fun n=>qA n m.e
 obtain⟨N,hv⟩:=(uB m.s m.a m.b ae ae ha hb).any;have hes:(l.map Mo.d)[k]?=some m.d:=by simp[hk]
 have hlen:(l.map Mo.d).length=l.length:=aC;have aW:ak .i64 ((k:Int)+1)=(k:Int)+1:=wrap_i64 ae;have hk1:((k+1:Nat):Int)=(k:Int)+1:=ae;have hk0:(0:Int)<=(k:Int):=ae;unfold YZ qvF;rw[hk1];simp only[PD];cases h1:bI m.e
 ·have e1:m.fits=false:=by simp[Mo.fits,h1]
  rw[e1];rw[h1]at hp;refine Ex.of (n:=400) ?_;obtain⟨e,s,a,b⟩:=m;simp only[Mo.d,kF]at*;generalize LL a=x1,LL b=x2 at*;simp only[LD]at*;generalize List.map Mo.d l=es at*;have i1:=idx hes;simp[U1,f99,hkl,hk0,i1,hlen,hp]
 ·rw[h1]at hp;cases h2:ek m.s m.a m.b
  ·have e1:m.fits=false:=by simp[Mo.fits,h2]
   rw[e1];rw[h2]at hv;replace hv:=hv N ae;refine Ex.of (n:=N+400) ?_;obtain⟨e,s,a,b⟩:=m;simp only[Mo.d,kF,raw]at*;generalize LL a=x1,LL b=x2 at*;simp only[LD]at*;generalize List.map Mo.d l=es at*;have i1:=idx hes;simp[U1,f99,hkl,hk0,i1,hlen,hp,hv]
  ·rw[h2]at hv;have hq:=uC ha hb h2;have hz:=xk ha hb 1000 la lb ae h2;obtain⟨N2,hs⟩:=(ng (cB m.s m.a m.b) ae).any;rw[<-hq]at hs;have hsg:((cB m.s m.a m.b).num.sign==0)=decide (m.a=[]):=by
    have e1:qn (cB m.s m.a m.b)=m.a:=by
     have:=hq;simp only[raw,qD,D.a.injEq,Xt0,LD,D.s.injEq,true_and]at this;have h4:LL m.a=LL (qn (cB m.s m.a m.b)):=this.2.1;rw[JL,JL]at h4;have h5:(m.a.map fun(x:Nat)=>(x:Int))=((qn (cB m.s m.a m.b)).map fun(x:Nat)=>(x:Int)):=by
      unfold LK at h4;exact(X60 (fun p q hpq=>by simpa using hpq)).1 h4
     exact(qy.1 h5).symm
    have e2:m.a=[]↔(cB m.s m.a m.b).num=0:=by
     have h6:qn (cB m.s m.a m.b)=[]↔(cB m.s m.a m.b).num=0:=by unfold qn;rw[eH,Xu0]
     rwa [e1]at h6
    by_cases h0:(cB m.s m.a m.b).num=0
    ·rw[decide_eq_true (e2.2 h0),h0];rfl
    ·have h1:¬ m.a=[]:=fun h=>h0 (e2.1 h)
     have h2:(cB m.s m.a m.b).num.sign≠0:=fun h=>h0 (Q91.1 h)
     rw[decide_eq_false h1];simpa using h2
   replace hv:=hv (N+N2) ae;replace hs:=hs (N+N2) ae;generalize N+N2=M at*;clear hq hz;generalize (cB m.s m.a m.b).num.sign=sg at*
   by_cases h3:m.a=[]
   ·have e1:m.fits=false:=by simp[Mo.fits,h3]
    rw[e1];rw[decide_eq_true h3]at hsg;refine Ex.of (n:=M+400) ?_;obtain⟨e,s,a,b⟩:=m;simp only[Mo.d,kF,raw]at*;generalize LL a=x1,LL b=x2 at*;simp only[LD]at*;generalize List.map Mo.d l=es at*;have i1:=idx hes;simp[U1,f99,hkl,hk0,i1,hlen,hp,hv,hs,hsg]
   ·have e1:m.fits=true:=by simp[Mo.fits,h1,h2,h3]
    rw[e1];rw[decide_eq_false h3]at hsg
    by_cases ag1:k=0
    ·subst ag1;rw[if_pos rfl];simp only[sN];have w1:ak .i64 1=1:=wrap_i64 ae;refine Ex.of (n:=M+400) ?_;obtain⟨e,s,a,b⟩:=m;simp only[Mo.d,kF,raw]at*;generalize LL a=x1,LL b=x2 at*;simp only[LD]at*;generalize List.map Mo.d l=es at*;have i1:=idx hes;simp[U1,f99,hkl,i1,hlen,hp,hv,hs,hsg,w1]
    ·rw[if_neg ag1];obtain⟨q,hq⟩:∃ q,l[k-1]?=some q:=⟨l[k-1]'(by omega),Qa1 ae⟩
     rw[hq];have UX:(l.map Mo.d)[k-1]?=some q.d:=by simp[hq]
     have UY:=fun n=>kM n q.e m.e
     have hdec:ak .i64 ((k:Int)-1)=((k-1:Nat):Int):=by rw[wrap_i64 ae];omega
     have UZ:0<k:=ae;have U0:k-1<l.length:=ae;have hd:decide (jr q.e m.e<0) = !decide (0<=jr q.e m.e):=by rw[<-decide_not];simp only[Int.not_le]
     simp only[sN,hd];refine Ex.of (n:=M+400) ?_;obtain⟨e,s,a,b⟩:=m;obtain⟨e',s',a',b'⟩:=q;simp only[Mo.d,kF,raw]at*;generalize jr e' e=og,LL a=x1,LL b=x2 at*;generalize LL a'=x3,LL b'=x4 at*;simp only[LD]at*;generalize List.map Mo.d l=es at*;have i1:=idx hes;have i2:=idx UX;generalize k-1=k' at*
     by_cases hog:0<=og
     ·simp[U1,f99,hkl,hk0,UZ,i1,i2,hlen,hp,hv,hs,hsg,UY,hdec,U0,hog]
     ·simp[U1,f99,hkl,hk0,UZ,i1,i2,hlen,hp,hv,hs,hsg,UY,hdec,U0,hog,aW]
theorem Z7 (l:List Mo)(hl:Po l) :
  ∃ r,Ex E0 (.loop U1) (YZ l 0 .u) r/\((z_ none l=true/\r=(.exit 0,YZ l l.length (dB false)))\/(z_ none l=false/\r=(.ret,qvF))):=by
 refine Ex.inv (S:=fun k:Nat=>YZ l k .u) (fun k=>l.length-k) (fun k=>k<=l.length/\z_ none l=z_ (if k=0 then none else l[k-1]?) (l.drop k)) _ ?_ 0 ⟨aC,aC⟩;rintro k ⟨h1,h3⟩
 by_cases hk:k<l.length
 ·have hm:l[k]?=some (l[k]'hk):=Qa1 hk;generalize l[k]'hk=m at hm;have hr:=U2 l k m hl hm;rw[JO l k m hm]at h3;cases hc:(m.fits&&sN (if k=0 then none else l[k-1]?) m)
  ·rw[hc]at hr h3;exact .inr ⟨_,hr,aC,.inr ⟨by simpa using h3,rfl⟩⟩
  ·rw[hc]at hr h3;refine .inl ⟨k+1,hr,ae,ae,?_⟩;rw[h3,if_neg aC,Qs1];simp only[Qw2,hm]
 ·have he:k=l.length:=ae;subst he;have hlen:(l.map Mo.d).length=l.length:=aC;rw[Qv1]at h3;refine .inr ⟨_,Ex.of (n:=60) ?_,?_,.inl ⟨?_,rfl⟩⟩
  ·unfold YZ;simp only[PD];generalize List.map Mo.d l=es at*;simp[U1,f99,hlen]
  ·simp
  ·rw[h3];cases (if l.length=0 then none else l[l.length-1]?)<;>simp[z_]
theorem FM (l:List Mo)(hl:Po l):Ca E0 99 [.d (PD l)] (dB (z_ none l),none):=by
 obtain⟨r,hr,h⟩:=Z7 l hl;have hA:Ex E0 f99.body.l (st0 (.d (PD l)::wW) []) (.norm,(st0 (.d (PD l)::wW) [])):=by
  refine Ex.of (n:=40) ?_;generalize PD l=p at*;simp[f99]
 have hB:Ex E0 f99.body.r.l.l (st0 (.d (PD l)::wW) []) (.norm,YZ l 0 .u):=by
  refine Ex.of (n:=40) ?_;unfold YZ;generalize PD l=p at*;simp[f99]
 rcases h with ⟨hv,rfl⟩|⟨hv,rfl⟩
 ·rw[hv];refine Ca.body (o:=.ret) (st1:=(st0 (.u::dB true::u3K) [])) rfl (k99:E0.fn _=_) rfl ?_ (by intro id h;cases h) ?_
  ·show Ex E0 (.seq f99.body.l (.seq (.seq f99.body.r.l.l (.block 0 (.loop U1))) f99.body.r.r)) _ _;refine hA.seq ((hB.seq hr.block).seq (Ex.of (n:=40) ?_));unfold YZ;generalize PD l=p at*;simp[f99]
  ·simp[f99]
 ·rw[hv];refine Ca.body (o:=.ret) (st1:=qvF) rfl (k99:E0.fn _=_) rfl ?_ (by intro id h;cases h) ?_
  ·show Ex E0 (.seq f99.body.l (.seq (.seq f99.body.r.l.l (.block 0 (.loop U1))) f99.body.r.r)) _ _;exact hA.seq (hB.seq hr.dR).gp
  ·simp[f99,qvF]
def lK {α:Type}(eq:α->α->Bool):List α->List α->Bool
 | [],[]=>true
 | x::r,y::s=>eq x y&&lK eq r s
 | _,_=>false
theorem ny {α:Type}{eq:α->α->Bool}:∀ {a b:List α},lK eq a b=true->a.length=b.length
 | [],[],_=>rfl
 | x::r,y::s,h=>by
  simp only[lK,Qd0]at h;simp[ny h.2]
 | [],_::_,h=>by simp[lK]at h
 | _::_,[],h=>by simp[lK]at h
def Mo.eq (m n:Mo):Bool:=decide (m.e=n.e)&&(m.s==n.s&&decide (m.a=n.a)&&decide (m.b=n.b))
theorem Z8 (m n:Mo)(hm:m.ok)(hn:n.ok):Ca E0 71 [.d m.d,.d n.d] (dB (m.eq n),none):=by
 obtain⟨_,_,la,lb⟩:=hm;obtain⟨_,_,la',lb'⟩:=hn;obtain⟨N,t⟩:=(Co m.s n.s m.a m.b n.a n.b ae ae ae ae).get;have he:decide (m.e=n.e)=(m.e.1==n.e.1&&(m.e.2.1==n.e.2.1&&m.e.2.2==n.e.2.2)):=by
  obtain⟨⟨x,y,z⟩,_,_,_⟩:=m;obtain⟨⟨x',y',z'⟩,_,_,_⟩:=n;simp only[Qm0,Bool.decide_and];rfl
 refine Ca.bQ (n:=N+60) ?_;rw[aA rfl (aO 71 f71:E0.fn _=_) rfl];unfold Mo.eq;rw[he];generalize (m.s==n.s&&decide (m.a=n.a)&&decide (m.b=n.b))=r at*;obtain⟨⟨x,y,z⟩,s,a,b⟩:=m;obtain⟨⟨x',y',z'⟩,s',a',b'⟩:=n;simp only[Mo.d,raw,LD]at*;generalize LL a=x1,LL b=x2 at*;generalize LL a'=x3,LL b'=x4 at*;cases h1:(x==x')<;>cases h2:(y==y')<;>cases h3:(z==z')<;>simp[f71,dL,h1,h2,h3,t]
def MN:aF:=f73.body.r.r.l.r.bl.lp
def E_ (l1 l2:List Mo)(g k:Nat)(bs:List ah)(t:FV):St:=(st0 [.u,.d (.s 6 (l2.map Mo.d)),.d (.fn g),.u,.u,.u,.u,.u,.d (.s 6 (l1.map Mo.d)),dI l1.length,dI k,t,.u] bs)
def U3 (bs:List ah):St:=(st0 (.u::.u::.u::dB false::OU) bs)
theorem QQ (l1 l2:List Mo)(g k:Nat)(bs:List ah)(x y:Mo)(v:Bool)(h1:l1.length<=1000000)(hx:l1[k]?=some x)(hy:l2[k]?=some y)(hc:Ca E0 g [.d x.d,.d y.d] (dB v,none)) :
  ∃ bs',Ex E0 MN (E_ l1 l2 g k bs .u) (if v then(.norm,E_ l1 l2 g (k+1) bs' .u) else(.ret,U3 bs')):=by
 have hkl:k<l1.length:=(aT hx)
 have qB:k<l2.length:=(aT hy)
 obtain⟨N,hf⟩:=hc.get;have e1:(l1.map Mo.d)[k]?=some x.d:=by simp[hx]
 have e2:(l2.map Mo.d)[k]?=some y.d:=by simp[hy]
 have n1:(l1.map Mo.d).length=l1.length:=aC;have n2:(l2.map Mo.d).length=l2.length:=aC;have aW:ak .i64 ((k:Int)+1)=(k:Int)+1:=wrap_i64 ae;have hk1:((k+1:Nat):Int)=(k:Int)+1:=ae;have hk0:(0:Int)<=(k:Int):=ae;obtain⟨B,hB⟩:∃ B,bs.length=B:=⟨_,rfl⟩
 have hg:=fun(o:ah)=>xn (o:=o) hB
 have hs:=fun(o o':ah)=>xw (o:=o) (o':=o') hB
 have hg2:=fun(o o2:ah)=>xn (bs:=bs++[o]) (o:=o2) (k:=B+1) (by simp[hB])
 have hs2:=fun(o o2 o':ah)=>xw (bs:=bs++[o]) (o:=o2) (o':=o') (k:=B+1) (by simp[hB])
 have hg3:∀ (o o2:ah),(bs++[o]++[o2])[B]?=some o:=fun o o2=>by rw[Qm2,Qc0 ae,hB];simp
 simp only[Qm2,Xb0,Qv2]at hg2 hs2 hg3;refine⟨bs++[.box (x.d.cells.map .d)]++[.box (y.d.cells.map .d)],Ex.of (n:=N+300) ?_⟩;unfold E_ U3;rw[hk1];obtain⟨ex,sx,ax,bx⟩:=x;obtain⟨ey,sy,ay,by2⟩:=y;simp only[Mo.d]at*;generalize LL ax=x1,LL bx=x2,LL ay=x3,LL by2=x4 at*;simp only[LD]at*;generalize List.map Mo.d l1=es1,List.map Mo.d l2=es2 at*;have i1:=idx e1;have i2:=idx e2;cases v
 ·simp[MN,f73,hkl,qB,hk0,e1,e2,i1,i2,n1,n2,hB,hg,hs,hg2,hs2,hg3,hf]
 ·simp[MN,f73,hkl,qB,hk0,e1,e2,i1,i2,n1,n2,hB,hg,hs,hg2,hs2,hg3,hf,aW]
theorem U4 (eq:Mo->Mo->Bool)(l1 l2:List Mo)(g:Nat)(h1:l1.length<=1000000)(hl:l1.length=l2.length)(hc:∀ x ∈ l1,∀ y ∈ l2,Ca E0 g [.d x.d,.d y.d] (dB (eq x y),none)) :
  ∃ r,Ex E0 (.loop MN) (E_ l1 l2 g 0 [] .u) r/\((lK eq l1 l2=true/\∃ bs,r=(.exit 0,E_ l1 l2 g l1.length bs (dB false)))\/(lK eq l1 l2=false/\∃ bs,r=(.ret,U3 bs))):=by
 refine Ex.inv (S:=fun t:Nat × List ah=>E_ l1 l2 g t.1 t.2 .u) (fun t=>l1.length-t.1) (fun t=>t.1<=l1.length/\lK eq l1 l2=lK eq (l1.drop t.1) (l2.drop t.1)) _ ?_ (0,[]) ⟨aC,aC⟩;rintro⟨k,bs⟩ ⟨q1,q2⟩;simp only at q1 q2
 by_cases hk:k<l1.length
 ·have hx:l1[k]?=some (l1[k]'hk):=Qa1 hk;have hy:l2[k]?=some (l2[k]'(by omega)):=Qa1 ae;have d1:l1.drop k=l1[k]'hk::l1.drop (k+1):=Qj2 hk;have d2:l2.drop k=l2[k]'(by omega)::l2.drop (k+1):=Qj2 ae;obtain⟨bs',hr⟩:=QQ l1 l2 g k bs _ _ _ h1 hx hy (hc _ (Qi0 hk) _ (Qi0 ae));rw[d1,d2]at q2;simp only[lK]at q2;cases hv:eq (l1[k]'hk) (l2[k]'(by omega))
  ·rw[hv]at hr q2;exact .inr ⟨_,hr,aC,.inr ⟨by simpa using q2,bs',rfl⟩⟩
  ·rw[hv]at hr q2;exact .inl ⟨(k+1,bs'),hr,by simp only;omega,by simp only;omega,by simpa using q2⟩
 ·have he:k=l1.length:=ae;subst he;rw[Qv1,hl,Qv1]at q2;refine .inr ⟨_,Ex.of (n:=60) ?_,?_,.inl ⟨by rw[q2];rfl,bs,rfl⟩⟩
  ·unfold E_;generalize List.map Mo.d l1=es1,List.map Mo.d l2=es2,l1.length=m at*;simp[MN,f73]
  ·simp
theorem adQ (eq:Mo->Mo->Bool)(l1 l2:List Mo)(g:Nat)(h1:l1.length<=1000000)(h2:l2.length<=1000000)(hc:∀ x ∈ l1,∀ y ∈ l2,Ca E0 g [.d x.d,.d y.d] (dB (eq x y),none)) :
  Ca E0 73 [.d (.s 6 (l1.map Mo.d)),.d (.s 6 (l2.map Mo.d)),.d (.fn g)] (dB (lK eq l1 l2),none):=by
 have n1:(l1.map Mo.d).length=l1.length:=aC;have n2:(l2.map Mo.d).length=l2.length:=aC;have hA:Ex E0 f73.body.l (st0 (.d (.s 6 (l1.map Mo.d))::.d (.s 6 (l2.map Mo.d))::.d (.fn g)::rT) []) (.norm,(st0 (.d (.s 6 (l1.map Mo.d))::.d (.s 6 (l2.map Mo.d))::.d (.fn g)::rT) [])):=by
  refine Ex.of (n:=40) ?_;generalize List.map Mo.d l1=es1,List.map Mo.d l2=es2 at*;simp[f73]
 by_cases hl:l1.length=l2.length
 ·obtain⟨r,hr,h⟩:=U4 eq l1 l2 g h1 hl hc;have hB:Ex E0 f73.body.r.l (st0 (.d (.s 6 (l1.map Mo.d))::.d (.s 6 (l2.map Mo.d))::.d (.fn g)::rT) []) (.norm,(st0 (.d (.s 6 (l1.map Mo.d))::.d (.s 6 (l2.map Mo.d))::.d (.fn g)::.u::.u::.u::.u::dB false::n_) [])):=by
   refine Ex.of (n:=40) ?_;generalize List.map Mo.d l1=es1,List.map Mo.d l2=es2 at*;simp[f73,n1,n2,hl]
  have hC:Ex E0 f73.body.r.r.l.l (st0 (.d (.s 6 (l1.map Mo.d))::.d (.s 6 (l2.map Mo.d))::.d (.fn g)::.u::.u::.u::.u::dB false::n_) []) (.norm,E_ l1 l2 g 0 [] .u):=by
   refine Ex.of (n:=40) ?_;unfold E_;generalize List.map Mo.d l1=es1,List.map Mo.d l2=es2 at*;simp[f73,n1]
  rcases h with ⟨hv,bs,rfl⟩|⟨hv,bs,rfl⟩
  ·rw[hv];refine Ca.body (o:=.ret) (st1:=(st0 (.u::.u::.u::dB true::OU) bs)) rfl (k73:E0.fn _=_) rfl ?_ (by intro id h;cases h) ?_
   ·show Ex E0 (.seq f73.body.l (.seq f73.body.r.l (.seq (.seq f73.body.r.r.l.l (.block 0 (.loop MN))) f73.body.r.r.r))) _ _;refine hA.seq (hB.seq ((hC.seq hr.block).seq (Ex.of (n:=40) ?_)));unfold E_;generalize List.map Mo.d l1=es1,List.map Mo.d l2=es2 at*;simp[f73]
   ·simp[f73]
  ·rw[hv];refine Ca.body (o:=.ret) (st1:=U3 bs) rfl (k73:E0.fn _=_) rfl ?_ (by intro id h;cases h) ?_
   ·show Ex E0 (.seq f73.body.l (.seq f73.body.r.l (.seq (.seq f73.body.r.r.l.l (.block 0 (.loop MN))) f73.body.r.r.r))) _ _;exact hA.seq (hB.seq (hC.seq hr.dR).gp)
   ·simp[f73,U3]
 ·have hf:lK eq l1 l2=false:=by
   cases h:lK eq l1 l2
   ·rfl
   ·exact absurd (ny h) hl
  have hne:((l1.length:Int) != (l2.length:Int))=true:=by simp;omega
  rw[hf];refine Ca.bQ (n:=60) ?_;rw[aA rfl (k73:E0.fn _=_) rfl];generalize List.map Mo.d l1=es1,List.map Mo.d l2=es2 at*;simp[f73,n1,n2,hne]
inductive W where
 | mk (s:Bool) (a b:List Nat) (c:Int) (i:Bool) (u:Int) (p:List Mo) (ps:List W)
mutual
def W.d:W->D
 | .mk s a b c i u p ps=>.a [.v (.bool s),LD a,LD b,.v (.int .i64 c),.v (.bool i),.v (.int .u64 u),PD p,.s 8 (W.ds ps)]
def W.ds:List W->List D
 | []=>[]
 | w::r=>w.d::W.ds r
end
theorem W.gG:∀ l:List W,W.ds l=l.map W.d
 | []=>rfl
 | w::r=>by simp[W.ds,W.gG r]
mutual
def W.eq:W->W->Bool
 | .mk s a b c i u p ps,.mk s' a' b' c' i' u' p' ps'=>(s==s'&&decide (a=a')&&decide (b=b'))&&(c==c')&&(i==i')&&(u==u')&&lK Mo.eq p p'&&W.eqs ps ps'
def W.eqs:List W->List W->Bool
 | [],[]=>true
 | x::r,y::s=>x.eq y&&W.eqs r s
 | _,_=>false
end
theorem W.Hr:∀ l m:List W,W.eqs l m=lK W.eq l m
 | [],[]=>rfl
 | x::r,y::s=>by simp[W.eqs,lK,W.Hr r s]
 | [],_::_=>rfl
 | _::_,[]=>rfl
inductive W.OK:W->Prop
 | mk {s:Bool} {a b:List Nat} {c:Int} {i:Bool} {u:Int} {p:List Mo} {ps:List W} (ha:bY a) (hb:bY b) (la:a.length<=1000) (lb:b.length<=1000) (hp:Po p) (lp:ps.length<=1000) (h:∀ w ∈ ps,W.OK w):W.OK (.mk s a b c i u p ps)
def MO:aF:=f74.body.r.r.l.r.bl.lp
def Fa (l1 l2:List W)(g k:Nat)(bs:List ah)(t:FV):St:=(st0 [.u,.d (.s 8 (l2.map W.d)),.d (.fn g),.u,.u,.u,.u,.u,.d (.s 8 (l1.map W.d)),dI l1.length,dI k,t,.u] bs)
def U5 (bs:List ah):St:=(st0 (.u::.u::.u::dB false::OU) bs)
theorem QR (l1 l2:List W)(g k:Nat)(bs:List ah)(x y:W)(v:Bool)(h1:l1.length<=1000000)(hx:l1[k]?=some x)(hy:l2[k]?=some y)(hc:Ca E0 g [.d x.d,.d y.d] (dB v,none)) :
  ∃ bs',Ex E0 MO (Fa l1 l2 g k bs .u) (if v then(.norm,Fa l1 l2 g (k+1) bs' .u) else(.ret,U5 bs')):=by
 have hkl:k<l1.length:=(aT hx)
 have qB:k<l2.length:=(aT hy)
 obtain⟨N,hf⟩:=hc.get;have e1:(l1.map W.d)[k]?=some x.d:=by simp[hx]
 have e2:(l2.map W.d)[k]?=some y.d:=by simp[hy]
 have n1:(l1.map W.d).length=l1.length:=aC;have n2:(l2.map W.d).length=l2.length:=aC;have aW:ak .i64 ((k:Int)+1)=(k:Int)+1:=wrap_i64 ae;have hk1:((k+1:Nat):Int)=(k:Int)+1:=ae;have hk0:(0:Int)<=(k:Int):=ae;obtain⟨B,hB⟩:∃ B,bs.length=B:=⟨_,rfl⟩
 have hg:=fun(o:ah)=>xn (o:=o) hB
 have hs:=fun(o o':ah)=>xw (o:=o) (o':=o') hB
 have hg2:=fun(o o2:ah)=>xn (bs:=bs++[o]) (o:=o2) (k:=B+1) (by simp[hB])
 have hs2:=fun(o o2 o':ah)=>xw (bs:=bs++[o]) (o:=o2) (o':=o') (k:=B+1) (by simp[hB])
 have hg3:∀ (o o2:ah),(bs++[o]++[o2])[B]?=some o:=fun o o2=>by rw[Qm2,Qc0 ae,hB];simp
 simp only[Qm2,Xb0,Qv2]at hg2 hs2 hg3;refine⟨bs++[.box (x.d.cells.map .d)]++[.box (y.d.cells.map .d)],Ex.of (n:=N+300) ?_⟩;unfold Fa U5;rw[hk1];obtain⟨sx,ax,bx,cx,ix,ux,px,MP⟩:=x;obtain⟨sy,ay,by2,cy,iy,uy,py,psy⟩:=y;simp only[W.d,PD]at*;generalize LL ax=x1,LL bx=x2,LL ay=x3,LL by2=x4,List.map Mo.d px=x5,List.map Mo.d py=x6,W.ds MP=x7,W.ds psy=x8 at*;simp only[LD]at*;generalize List.map W.d l1=es1,List.map W.d l2=es2 at*;have i1:=idx e1;have i2:=idx e2;cases v
 ·simp[MO,f74,hkl,qB,hk0,e1,e2,i1,i2,n1,n2,hB,hg,hs,hg2,hs2,hg3,hf]
 ·simp[MO,f74,hkl,qB,hk0,e1,e2,i1,i2,n1,n2,hB,hg,hs,hg2,hs2,hg3,hf,aW]
theorem U6 (eq:W->W->Bool)(l1 l2:List W)(g:Nat)(h1:l1.length<=1000000)(hl:l1.length=l2.length)(hc:∀ x ∈ l1,∀ y ∈ l2,Ca E0 g [.d x.d,.d y.d] (dB (eq x y),none)) :
  ∃ r,Ex E0 (.loop MO) (Fa l1 l2 g 0 [] .u) r/\((lK eq l1 l2=true/\∃ bs,r=(.exit 0,Fa l1 l2 g l1.length bs (dB false)))\/(lK eq l1 l2=false/\∃ bs,r=(.ret,U5 bs))):=by
 refine Ex.inv (S:=fun t:Nat × List ah=>Fa l1 l2 g t.1 t.2 .u) (fun t=>l1.length-t.1) (fun t=>t.1<=l1.length/\lK eq l1 l2=lK eq (l1.drop t.1) (l2.drop t.1)) _ ?_ (0,[]) ⟨aC,aC⟩;rintro⟨k,bs⟩ ⟨q1,q2⟩;simp only at q1 q2
 by_cases hk:k<l1.length
 ·have hx:l1[k]?=some (l1[k]'hk):=Qa1 hk;have hy:l2[k]?=some (l2[k]'(by omega)):=Qa1 ae;have d1:l1.drop k=l1[k]'hk::l1.drop (k+1):=Qj2 hk;have d2:l2.drop k=l2[k]'(by omega)::l2.drop (k+1):=Qj2 ae;obtain⟨bs',hr⟩:=QR l1 l2 g k bs _ _ _ h1 hx hy (hc _ (Qi0 hk) _ (Qi0 ae));rw[d1,d2]at q2;simp only[lK]at q2;cases hv:eq (l1[k]'hk) (l2[k]'(by omega))
  ·rw[hv]at hr q2;exact .inr ⟨_,hr,aC,.inr ⟨by simpa using q2,bs',rfl⟩⟩
  ·rw[hv]at hr q2;exact .inl ⟨(k+1,bs'),hr,by simp only;omega,by simp only;omega,by simpa using q2⟩
 ·have he:k=l1.length:=ae;subst he;rw[Qv1,hl,Qv1]at q2;refine .inr ⟨_,Ex.of (n:=60) ?_,?_,.inl ⟨by rw[q2];rfl,bs,rfl⟩⟩
  ·unfold Fa;generalize List.map W.d l1=es1,List.map W.d l2=es2,l1.length=m at*;simp[MO,f74]
  ·simp
theorem adR (eq:W->W->Bool)(l1 l2:List W)(g:Nat)(h1:l1.length<=1000000)(h2:l2.length<=1000000)(hc:∀ x ∈ l1,∀ y ∈ l2,Ca E0 g [.d x.d,.d y.d] (dB (eq x y),none)) :
  Ca E0 74 [.d (.s 8 (l1.map W.d)),.d (.s 8 (l2.map W.d)),.d (.fn g)] (dB (lK eq l1 l2),none):=by
 have n1:(l1.map W.d).length=l1.length:=aC;have n2:(l2.map W.d).length=l2.length:=aC;have hA:Ex E0 f74.body.l (st0 (.d (.s 8 (l1.map W.d))::.d (.s 8 (l2.map W.d))::.d (.fn g)::rT) []) (.norm,(st0 (.d (.s 8 (l1.map W.d))::.d (.s 8 (l2.map W.d))::.d (.fn g)::rT) [])):=by
  refine Ex.of (n:=40) ?_;generalize List.map W.d l1=es1,List.map W.d l2=es2 at*;simp[f74]
 by_cases hl:l1.length=l2.length
 ·obtain⟨r,hr,h⟩:=U6 eq l1 l2 g h1 hl hc;have hB:Ex E0 f74.body.r.l (st0 (.d (.s 8 (l1.map W.d))::.d (.s 8 (l2.map W.d))::.d (.fn g)::rT) []) (.norm,(st0 (.d (.s 8 (l1.map W.d))::.d (.s 8 (l2.map W.d))::.d (.fn g)::.u::.u::.u::.u::dB false::n_) [])):=by
   refine Ex.of (n:=40) ?_;generalize List.map W.d l1=es1,List.map W.d l2=es2 at*;simp[f74,n1,n2,hl]
  have hC:Ex E0 f74.body.r.r.l.l (st0 (.d (.s 8 (l1.map W.d))::.d (.s 8 (l2.map W.d))::.d (.fn g)::.u::.u::.u::.u::dB false::n_) []) (.norm,Fa l1 l2 g 0 [] .u):=by
   refine Ex.of (n:=40) ?_;unfold Fa;generalize List.map W.d l1=es1,List.map W.d l2=es2 at*;simp[f74,n1]
  rcases h with ⟨hv,bs,rfl⟩|⟨hv,bs,rfl⟩
  ·rw[hv];refine Ca.body (o:=.ret) (st1:=(st0 (.u::.u::.u::dB true::OU) bs)) rfl (k74:E0.fn _=_) rfl ?_ (by intro id h;cases h) ?_
   ·show Ex E0 (.seq f74.body.l (.seq f74.body.r.l (.seq (.seq f74.body.r.r.l.l (.block 0 (.loop MO))) f74.body.r.r.r))) _ _;refine hA.seq (hB.seq ((hC.seq hr.block).seq (Ex.of (n:=40) ?_)));unfold Fa;generalize List.map W.d l1=es1,List.map W.d l2=es2 at*;simp[f74]
   ·simp[f74]
  ·rw[hv];refine Ca.body (o:=.ret) (st1:=U5 bs) rfl (k74:E0.fn _=_) rfl ?_ (by intro id h;cases h) ?_
   ·show Ex E0 (.seq f74.body.l (.seq f74.body.r.l (.seq (.seq f74.body.r.r.l.l (.block 0 (.loop MO))) f74.body.r.r.r))) _ _;exact hA.seq (hB.seq (hC.seq hr.dR).gp)
   ·simp[f74,U5]
 ·have hf:lK eq l1 l2=false:=by
   cases h:lK eq l1 l2
   ·rfl
   ·exact absurd (ny h) hl
  have hne:((l1.length:Int) != (l2.length:Int))=true:=by simp;omega
  rw[hf];refine Ca.bQ (n:=60) ?_;rw[aA rfl (k74:E0.fn _=_) rfl];generalize List.map W.d l1=es1,List.map W.d l2=es2 at*;simp[f74,n1,n2,hne]
theorem Z9 (l1 l2:List Mo)(h1:Po l1)(h2:Po l2):Ca E0 73 [.d (PD l1),.d (PD l2),.d (.fn 71)] (dB (lK Mo.eq l1 l2),none) :=
 adQ Mo.eq l1 l2 71 h1.2 h2.2 (fun x hx y hy=>Z8 x y (h1.1 x hx) (h2.1 y hy))
theorem QS (v w:W)(hv:v.OK)(hw:w.OK)(hp:match v,w with|.mk _ _ _ _ _ _ _ ps,.mk _ _ _ _ _ _ _ ps'=>∀ x ∈ ps,∀ y ∈ ps',Ca E0 34 [.d x.d,.d y.d] (.d (.v (.bool (x.eq y))),none)) :
  Ca E0 34 [.d v.d,.d w.d] (dB (v.eq w),none):=by
 cases hv with
 | @mk s a b c i u p ps ha hb la lb hpo lp h =>
  cases hw with
  | @mk s' a' b' c' i' u' p' ps' ha' hb' la' lb' U7 lp' h' =>
   simp only at hp;obtain⟨Kq,_,t1,t2,t3⟩:=((Co s s' a b a' b' ae ae ae ae).j ((Z9 p p' hpo U7).j ((adR W.eq ps ps' 34 ae ae hp).any))).at 0;generalize Kq=N at*;refine Ca.bQ (n:=N+90) ?_;rw[aA rfl (aO 34 f34:E0.fn _=_) rfl];simp only[W.d,W.eq,W.gG,W.Hr];generalize (s==s'&&decide (a=a')&&decide (b=b'))=r1,lK Mo.eq p p'=r2,lK W.eq ps ps'=r3 at*;simp only[raw,LD]at*;generalize LL a=x1,LL b=x2 at*;generalize LL a'=x3,LL b'=x4 at*;simp only[PD]at*;generalize List.map Mo.d p=y1 at*;generalize List.map Mo.d p'=y2,List.map W.d ps=y3 at*;generalize List.map W.d ps'=y4 at*;cases r1
   ·simp[f34,t1]
   ·cases h1:(c==c')
    ·simp[f34,t1,h1]
    ·cases h2:(i==i')
     ·simp[f34,t1,h1,h2]
     ·cases h3:(u==u')
      ·simp[f34,t1,h1,h2,h3]
      ·cases r2
       ·simp[f34,t1,h1,h2,h3,t2]
       ·simp[f34,t1,h1,h2,h3,t2,t3]
theorem pI (v:W)(hv:v.OK):∀ w:W,w.OK->Ca E0 34 [.d v.d,.d w.d] (dB (v.eq w),none):=by
 induction hv with
 | @mk s a b c i u p ps ha hb la lb hpo lp h ih =>
  intro w hw;refine QS _ w (.mk ha hb la lb hpo lp h) hw ?_;cases hw with
  | @mk s' a' b' c' i' u' p' ps' ha' hb' la' lb' U7 lp' h' =>
   simp only;exact fun x hx y hy=>ih x hx y (h' y hy)
def psB:aF:=f40.body.r.r.l.r.bl.lp
def Y0 (l1 l2:List Mo)(k:Nat)(t:FV):St:=(st0 [.d (PD l1),.d (PD l2),.u,dI k,.u,t,.u] [])
def psF:St:=(st0 (.u::.u::dB false::wW) [])
theorem U8 (l1 l2:List Mo)(k:Nat)(m n:Mo)(h1:Po l1)(h2:Po l2)(hx:l1[k]?=some m)(hy:l2[k]?=some n) :
  Ex E0 psB (Y0 l1 l2 k .u) (if m.eq n then(.norm,Y0 l1 l2 (k+1) .u) else(.ret,psF)):=by
 have hkl:k<l1.length:=(aT hx)
 have qB:k<l2.length:=(aT hy)
 have hll:=h1.2;obtain⟨_,_,la,lb⟩:=h1.1 m (Qa2 hx);obtain⟨_,_,la',lb'⟩:=h2.1 n (Qa2 hy);obtain⟨N,t⟩:=(nu m.s n.s m.a m.b n.a n.b ae ae ae ae).get;have e1:(l1.map Mo.d)[k]?=some m.d:=by simp[hx]
 have e2:(l2.map Mo.d)[k]?=some n.d:=by simp[hy]
 have n1:(l1.map Mo.d).length=l1.length:=aC;have n2:(l2.map Mo.d).length=l2.length:=aC;have aW:ak .i64 ((k:Int)+1)=(k:Int)+1:=wrap_i64 ae;have hk1:((k+1:Nat):Int)=(k:Int)+1:=ae;have hk0:(0:Int)<=(k:Int):=ae;have he:decide (m.e=n.e)=(m.e.1==n.e.1&&(m.e.2.1==n.e.2.1&&m.e.2.2==n.e.2.2)):=by
  obtain⟨⟨x,y,z⟩,_,_,_⟩:=m;obtain⟨⟨x',y',z'⟩,_,_,_⟩:=n;simp only[Qm0,Bool.decide_and];rfl
 refine Ex.of (n:=N+300) ?_;unfold Y0 psF Mo.eq;rw[hk1,he];generalize (m.s==n.s&&decide (m.a=n.a)&&decide (m.b=n.b))=r at*;obtain⟨⟨x,y,z⟩,s,a,b⟩:=m;obtain⟨⟨x',y',z'⟩,s',a',b'⟩:=n;simp only[Mo.d,raw,PD]at*;generalize LL a=x1,LL b=x2 at*;generalize LL a'=x3,LL b'=x4 at*;simp only[LD]at*;generalize List.map Mo.d l1=es1,List.map Mo.d l2=es2 at*;have i1:=idx e1;have i2:=idx e2
 by_cases q1:(x==x'&&(y==y'&&z==z'))=true
 ·have q1':=q1;simp only[Qd0]at q1';rw[q1];cases r
  ·simp[psB,f40,dL,hkl,qB,hk0,e1,e2,i1,i2,n1,n2,q1'.1,q1'.2.1,q1'.2.2,t]
  ·simp[psB,f40,dL,hkl,qB,hk0,e1,e2,i1,i2,n1,n2,q1'.1,q1'.2.1,q1'.2.2,t,aW]
 ·simp only[X1]at q1;rw[q1];cases g1:(x==x')<;>cases g2:(y==y')<;>cases g3:(z==z')<;>first
   | (rw[g1,g2,g3]at q1;cases q1;done)
   | simp[psB,f40,dL,hkl,qB,hk0,e1,e2,i1,i2,n1,n2,g1,g2,g3]
theorem Z_ (l1 l2:List Mo)(h1:Po l1)(h2:Po l2)(hl:l1.length=l2.length) :
  ∃ r,Ex E0 (.loop psB) (Y0 l1 l2 0 .u) r/\((lK Mo.eq l1 l2=true/\r=(.exit 0,Y0 l1 l2 l1.length (dB false)))\/(lK Mo.eq l1 l2=false/\r=(.ret,psF))):=by
 refine Ex.inv (S:=fun k:Nat=>Y0 l1 l2 k .u) (fun k=>l1.length-k) (fun k=>k<=l1.length/\lK Mo.eq l1 l2=lK Mo.eq (l1.drop k) (l2.drop k)) _ ?_ 0 ⟨aC,aC⟩;rintro k ⟨q1,q2⟩
 by_cases hk:k<l1.length
 ·have hx:l1[k]?=some (l1[k]'hk):=Qa1 hk;have hy:l2[k]?=some (l2[k]'(by omega)):=Qa1 ae;have d1:l1.drop k=l1[k]'hk::l1.drop (k+1):=Qj2 hk;have d2:l2.drop k=l2[k]'(by omega)::l2.drop (k+1):=Qj2 ae;have hr:=U8 l1 l2 k _ _ h1 h2 hx hy;rw[d1,d2]at q2;simp only[lK]at q2;cases hv:Mo.eq (l1[k]'hk) (l2[k]'(by omega))
  ·rw[hv]at hr q2;exact .inr ⟨_,hr,aC,.inr ⟨by simpa using q2,rfl⟩⟩
  ·rw[hv]at hr q2;exact .inl ⟨k+1,hr,ae,ae,by simpa using q2⟩
 ·have he:k=l1.length:=ae;subst he;have n1:(l1.map Mo.d).length=l1.length:=aC;rw[Qv1,hl,Qv1]at q2;refine .inr ⟨_,Ex.of (n:=60) ?_,?_,.inl ⟨by rw[q2];rfl,rfl⟩⟩
  ·unfold Y0;simp only[PD];generalize List.map Mo.d l1=es1,List.map Mo.d l2=es2,l1.length=m at*;simp[psB,f40,n1]
  ·simp
theorem U9 (l1 l2:List Mo)(h1:Po l1)(h2:Po l2):Ca E0 40 [.d (PD l1),.d (PD l2)] (dB (lK Mo.eq l1 l2),none):=by
 have n1:(l1.map Mo.d).length=l1.length:=aC;have n2:(l2.map Mo.d).length=l2.length:=aC
 by_cases hl:l1.length=l2.length
 ·obtain⟨r,hr,h⟩:=Z_ l1 l2 h1 h2 hl;have hA:Ex E0 f40.body.l (st0 (.d (PD l1)::.d (PD l2)::n_) []) (.norm,(st0 (.d (PD l1)::.d (PD l2)::n_) [])):=by
   refine Ex.of (n:=40) ?_;generalize PD l1=p1,PD l2=p2 at*;simp[f40]
  have hB:Ex E0 f40.body.r.l (st0 (.d (PD l1)::.d (PD l2)::n_) []) (.norm,(st0 [.d (PD l1),.d (PD l2),.u,.u,dB false,.u,.u] [])):=by
   refine Ex.of (n:=40) ?_;simp only[PD];generalize List.map Mo.d l1=es1,List.map Mo.d l2=es2 at*;simp[f40,n1,n2,hl]
  have hC:Ex E0 f40.body.r.r.l.l (st0 [.d (PD l1),.d (PD l2),.u,.u,dB false,.u,.u] []) (.norm,Y0 l1 l2 0 .u):=by
   refine Ex.of (n:=40) ?_;unfold Y0;generalize PD l1=p1,PD l2=p2 at*;simp[f40]
  rcases h with ⟨hv,rfl⟩|⟨hv,rfl⟩
  ·rw[hv];refine Ca.body (o:=.ret) (st1:=(st0 (.u::.u::dB true::wW) [])) rfl (k40:E0.fn _=_) rfl ?_ (by intro id h;cases h) ?_
   ·show Ex E0 (.seq f40.body.l (.seq f40.body.r.l (.seq (.seq f40.body.r.r.l.l (.block 0 (.loop psB))) f40.body.r.r.r))) _ _;refine hA.seq (hB.seq ((hC.seq hr.block).seq (Ex.of (n:=40) ?_)));unfold Y0;generalize PD l1=p1,PD l2=p2 at*;simp[f40]
   ·simp[f40]
  ·rw[hv];refine Ca.body (o:=.ret) (st1:=psF) rfl (k40:E0.fn _=_) rfl ?_ (by intro id h;cases h) ?_
   ·show Ex E0 (.seq f40.body.l (.seq f40.body.r.l (.seq (.seq f40.body.r.r.l.l (.block 0 (.loop psB))) f40.body.r.r.r))) _ _;exact hA.seq (hB.seq (hC.seq hr.dR).gp)
   ·simp[f40,psF]
 ·have hf:lK Mo.eq l1 l2=false:=by
   cases h:lK Mo.eq l1 l2
   ·rfl
   ·exact absurd (ny h) hl
  have hne:((l1.length:Int) != (l2.length:Int))=true:=by simp;omega
  rw[hf];refine Ca.bQ (n:=60) ?_;rw[aA rfl (k40:E0.fn _=_) rfl];simp only[PD];generalize List.map Mo.d l1=es1,List.map Mo.d l2=es2 at*;simp[f40,n1,n2,hne]
def weB:aF:=f12.body.r.r.l.r.bl.lp
def Y1 (c1 c2:List FV)(k:Nat)(t:FV):St:=(st0 [.u,.u,rL 0,rL 1,.u,dI k,.u,t,.u] [.box c1,.box c2])
def weF (c1 c2:List FV):St:=(st0 (.u::.u::.u::.u::dB false::wW) [.box c1,.box c2])
theorem U_ (p1 p2 p3 p4 p5 p6 p7 q1 q2 q3 q4 q5 q6 q7:D)(l1 l2:List W)(k:Nat)(x y:W)(v:Bool)(h1:l1.length<=1000000)(hx:l1[k]?=some x)(hy:l2[k]?=some y)(hc:Ca E0 12 [.d x.d,.d y.d] (dB v,none)) :
  Ex E0 weB (Y1 [.d p1,.d p2,.d p3,.d p4,.d p5,.d p6,.d p7,.d (.s 8 (l1.map W.d))] [.d q1,.d q2,.d q3,.d q4,.d q5,.d q6,.d q7,.d (.s 8 (l2.map W.d))] k .u)
   (if v then(.norm,Y1 [.d p1,.d p2,.d p3,.d p4,.d p5,.d p6,.d p7,.d (.s 8 (l1.map W.d))] [.d q1,.d q2,.d q3,.d q4,.d q5,.d q6,.d q7,.d (.s 8 (l2.map W.d))] (k+1) .u)
    else(.ret,weF [.d p1,.d p2,.d p3,.d p4,.d p5,.d p6,.d p7,.d (.s 8 (l1.map W.d))] [.d q1,.d q2,.d q3,.d q4,.d q5,.d q6,.d q7,.d (.s 8 (l2.map W.d))])):=by
 have hkl:k<l1.length:=(aT hx)
 have qB:k<l2.length:=(aT hy)
 obtain⟨N,hf⟩:=hc.get;have e1:(l1.map W.d)[k]?=some x.d:=by simp[hx]
 have e2:(l2.map W.d)[k]?=some y.d:=by simp[hy]
 have n1:(l1.map W.d).length=l1.length:=aC;have n2:(l2.map W.d).length=l2.length:=aC;have aW:ak .i64 ((k:Int)+1)=(k:Int)+1:=wrap_i64 ae;have hk1:((k+1:Nat):Int)=(k:Int)+1:=ae;have hk0:(0:Int)<=(k:Int):=ae;refine Ex.of (n:=N+300) ?_;unfold Y1 weF;rw[hk1];obtain⟨sx,ax,bx,cx,ix,ux,px,MP⟩:=x;obtain⟨sy,ay,by2,cy,iy,uy,py,psy⟩:=y;simp only[W.d,PD]at*;generalize LL ax=x1,LL bx=x2,LL ay=x3,LL by2=x4,List.map Mo.d px=x5,List.map Mo.d py=x6,W.ds MP=x7,W.ds psy=x8 at*;simp only[LD]at*;generalize List.map W.d l1=es1,List.map W.d l2=es2 at*;have i1:=idx e1;have i2:=idx e2;cases v
 ·simp[weB,f12,hkl,qB,hk0,e1,e2,i1,i2,n1,n2,hf]
 ·simp[weB,f12,hkl,qB,hk0,e1,e2,i1,i2,n1,n2,hf,aW]
theorem aaa (p1 p2 p3 p4 p5 p6 p7 q1 q2 q3 q4 q5 q6 q7:D)(l1 l2:List W)(h1:l1.length<=1000000)(hl:l1.length=l2.length)(hc:∀ x ∈ l1,∀ y ∈ l2,Ca E0 12 [.d x.d,.d y.d] (dB (x.eq y),none)) :
  ∃ r,Ex E0 (.loop weB) (Y1 [.d p1,.d p2,.d p3,.d p4,.d p5,.d p6,.d p7,.d (.s 8 (l1.map W.d))] [.d q1,.d q2,.d q3,.d q4,.d q5,.d q6,.d q7,.d (.s 8 (l2.map W.d))] 0 .u) r /\
   ((lK W.eq l1 l2=true/\r=(.exit 0,Y1 [.d p1,.d p2,.d p3,.d p4,.d p5,.d p6,.d p7,.d (.s 8 (l1.map W.d))] [.d q1,.d q2,.d q3,.d q4,.d q5,.d q6,.d q7,.d (.s 8 (l2.map W.d))] l1.length (dB false))) \/
    (lK W.eq l1 l2=false/\r=(.ret,weF [.d p1,.d p2,.d p3,.d p4,.d p5,.d p6,.d p7,.d (.s 8 (l1.map W.d))] [.d q1,.d q2,.d q3,.d q4,.d q5,.d q6,.d q7,.d (.s 8 (l2.map W.d))]))):=by
 refine Ex.inv (S:=fun k:Nat=>Y1 [.d p1,.d p2,.d p3,.d p4,.d p5,.d p6,.d p7,.d (.s 8 (l1.map W.d))] [.d q1,.d q2,.d q3,.d q4,.d q5,.d q6,.d q7,.d (.s 8 (l2.map W.d))] k .u) (fun k=>l1.length-k) (fun k=>k<=l1.length/\lK W.eq l1 l2=lK W.eq (l1.drop k) (l2.drop k)) _ ?_ 0 ⟨aC,aC⟩;rintro k ⟨g1,g2⟩
 by_cases hk:k<l1.length
 ·have hx:l1[k]?=some (l1[k]'hk):=Qa1 hk;have hy:l2[k]?=some (l2[k]'(by omega)):=Qa1 ae;have d1:l1.drop k=l1[k]'hk::l1.drop (k+1):=Qj2 hk;have d2:l2.drop k=l2[k]'(by omega)::l2.drop (k+1):=Qj2 ae;have hr:=U_ p1 p2 p3 p4 p5 p6 p7 q1 q2 q3 q4 q5 q6 q7 l1 l2 k _ _ _ h1 hx hy (hc _ (Qi0 hk) _ (Qi0 ae));rw[d1,d2]at g2;simp only[lK]at g2;cases hv:W.eq (l1[k]'hk) (l2[k]'(by omega))
  ·rw[hv]at hr g2;exact .inr ⟨_,hr,aC,.inr ⟨by simpa using g2,rfl⟩⟩
  ·rw[hv]at hr g2;exact .inl ⟨k+1,hr,ae,ae,by simpa using g2⟩
 ·have he:k=l1.length:=ae;subst he;have n1:(l1.map W.d).length=l1.length:=aC;rw[Qv1,hl,Qv1]at g2;refine .inr ⟨_,Ex.of (n:=60) ?_,?_,.inl ⟨by rw[g2];rfl,rfl⟩⟩
  ·unfold Y1;generalize List.map W.d l1=es1,List.map W.d l2=es2,l1.length=m at*;simp[weB,f12,n1]
  ·simp
set_option maxRecDepth 4000
theorem MQ (v w:W)(hv:v.OK)(hw:w.OK)(hp:match v,w with|.mk _ _ _ _ _ _ _ ps,.mk _ _ _ _ _ _ _ ps'=>∀ x ∈ ps,∀ y ∈ ps',Ca E0 12 [.d x.d,.d y.d] (.d (.v (.bool (x.eq y))),none)) :
  Ca E0 12 [.d v.d,.d w.d] (dB (v.eq w),none):=by
 cases hv with
 | @mk s a b c i u p ps ha hb la lb hpo lp h =>
  cases hw with
  | @mk s' a' b' c' i' u' p' ps' ha' hb' la' lb' U7 lp' h' =>
   simp only at hp;obtain⟨Kq,_,t1,t2⟩:=((nu s s' a b a' b' ae ae ae ae).j ((U9 p p' hpo U7).any)).at 0;generalize Kq=N at*;have m1:(ps.map W.d).length=ps.length:=aC;have m2:(ps'.map W.d).length=ps'.length:=aC;simp only[W.d,W.eq,W.gG,W.Hr]
   by_cases hall:((s==s'&&decide (a=a')&&decide (b=b'))&&(c==c')&&(i==i')&&(u==u')&&lK Mo.eq p p'&&(ps.length==ps'.length))=true
   ·simp only[Qd0]at hall;obtain⟨⟨⟨⟨⟨r1,h1⟩,h2⟩,h3⟩,r2⟩,h4⟩:=hall;have hlen:ps.length=ps'.length:=by simpa using h4
    have r1':(s==s'&&decide (a=a')&&decide (b=b'))=true:=by simpa using r1
    rw[r1']at t1;rw[r2]at t2;rw[r1',h1,h2,h3,r2];simp only[Qs1];obtain⟨r,hr,hq⟩:=aaa (vB s) (LD a) (LD b) (vI c) (vB i) (.v (.int .u64 u)) (PD p) (vB s') (LD a') (LD b') (vI c') (vB i') (.v (.int .u64 u')) (PD p') ps ps' ae hlen hp;generalize lK W.eq ps ps'=res at*;simp only[raw,LD,PD]at*;generalize LL a=x1,LL b=x2 at*;generalize LL a'=x3,LL b'=x4,List.map Mo.d p=y1 at*;generalize List.map Mo.d p'=y2 at*;generalize hy3:List.map W.d ps=y3 at*;generalize hy4:List.map W.d ps'=y4 at*;have g1:(c != c')=false:=by simpa using h1
    have g2:(u != u')=false:=by simpa using h3
    have m3:y4.length=ps.length:=ae;have hA:Ex E0 f12.body.l (st0 (.d (.a [vB s,.s 1 x1,.s 1 x2,vI c,vB i,.v (.int .u64 u),.s 6 y1,.s 8 y3])::.d (.a [vB s',.s 1 x3,.s 1 x4,vI c',vB i',.v (.int .u64 u'),.s 6 y2,.s 8 y4])::rX) [])
      (.norm,(st0 (.u::.u::rL 0::rL 1::n_) [.box [dB s,.d (.s 1 x1),.d (.s 1 x2),dI c,dB i,.d (.v (.int .u64 u)),.d (.s 6 y1),.d (.s 8 y3)],.box [dB s',.d (.s 1 x3),.d (.s 1 x4),dI c',dB i',.d (.v (.int .u64 u')),.d (.s 6 y2),.d (.s 8 y4)]])):=by
     refine Ex.of (n:=40) ?_;simp[f12]
    have hB:Ex E0 f12.body.r.l (st0 (.u::.u::rL 0::rL 1::n_) [.box [dB s,.d (.s 1 x1),.d (.s 1 x2),dI c,dB i,.d (.v (.int .u64 u)),.d (.s 6 y1),.d (.s 8 y3)],.box [dB s',.d (.s 1 x3),.d (.s 1 x4),dI c',dB i',.d (.v (.int .u64 u')),.d (.s 6 y2),.d (.s 8 y4)]])
      (.norm,(st0 [.u,.u,rL 0,rL 1,.u,.u,dB false,.u,.u] [.box [dB s,.d (.s 1 x1),.d (.s 1 x2),dI c,dB i,.d (.v (.int .u64 u)),.d (.s 6 y1),.d (.s 8 y3)],.box [dB s',.d (.s 1 x3),.d (.s 1 x4),dI c',dB i',.d (.v (.int .u64 u')),.d (.s 6 y2),.d (.s 8 y4)]])):=by
     refine Ex.of (n:=N+90) ?_;simp[f12,t1,t2,g1,g2,h2,m1,m3]
    have hC:Ex E0 f12.body.r.r.l.l (st0 [.u,.u,rL 0,rL 1,.u,.u,dB false,.u,.u] [.box [dB s,.d (.s 1 x1),.d (.s 1 x2),dI c,dB i,.d (.v (.int .u64 u)),.d (.s 6 y1),.d (.s 8 y3)],.box [dB s',.d (.s 1 x3),.d (.s 1 x4),dI c',dB i',.d (.v (.int .u64 u')),.d (.s 6 y2),.d (.s 8 y4)]])
      (.norm,Y1 [dB s,.d (.s 1 x1),.d (.s 1 x2),dI c,dB i,.d (.v (.int .u64 u)),.d (.s 6 y1),.d (.s 8 y3)] [dB s',.d (.s 1 x3),.d (.s 1 x4),dI c',dB i',.d (.v (.int .u64 u')),.d (.s 6 y2),.d (.s 8 y4)] 0 .u):=by
     refine Ex.of (n:=40) ?_;unfold Y1;simp[f12]
    rcases hq with ⟨rfl,rfl⟩|⟨rfl,rfl⟩
    ·refine Ca.body (o:=.ret) (st1:=(st0 (.u::.u::.u::.u::dB true::wW) [.box [dB s,.d (.s 1 x1),.d (.s 1 x2),dI c,dB i,.d (.v (.int .u64 u)),.d (.s 6 y1),.d (.s 8 y3)],.box [dB s',.d (.s 1 x3),.d (.s 1 x4),dI c',dB i',.d (.v (.int .u64 u')),.d (.s 6 y2),.d (.s 8 y4)]])) rfl (k12:E0.fn _=_) rfl ?_ (by intro id h;cases h) ?_
     ·show Ex E0 (.seq f12.body.l (.seq f12.body.r.l (.seq (.seq f12.body.r.r.l.l (.block 0 (.loop weB))) f12.body.r.r.r))) _ _;refine hA.seq (hB.seq ((hC.seq hr.block).seq (Ex.of (n:=40) ?_)));unfold Y1;simp[f12]
     ·simp[f12]
    ·refine Ca.body (o:=.ret) (st1:=weF [dB s,.d (.s 1 x1),.d (.s 1 x2),dI c,dB i,.d (.v (.int .u64 u)),.d (.s 6 y1),.d (.s 8 y3)] [dB s',.d (.s 1 x3),.d (.s 1 x4),dI c',dB i',.d (.v (.int .u64 u')),.d (.s 6 y2),.d (.s 8 y4)]) rfl (k12:E0.fn _=_) rfl ?_ (by intro id h;cases h) ?_
     ·show Ex E0 (.seq f12.body.l (.seq f12.body.r.l (.seq (.seq f12.body.r.r.l.l (.block 0 (.loop weB))) f12.body.r.r.r))) _ _;exact hA.seq (hB.seq (hC.seq hr.dR).gp)
     ·simp[f12,weF]
   ·have hres:((s==s'&&decide (a=a')&&decide (b=b'))&&(c==c')&&(i==i')&&(u==u')&&lK Mo.eq p p'&&lK W.eq ps ps')=false:=by
     rw[<-X1];intro hh;apply hall;simp only[Qd0]at hh ⊢;exact⟨hh.1,by simpa using ny hh.2⟩
    rw[hres];have e1:(c != c') = !(c==c'):=rfl;have e3:(u != u') = !(u==u'):=rfl;have e4:((ps.length:Int) != (ps'.length:Int)) = !(ps.length==ps'.length):=by
     have hcast:∀ x y:Nat,((x:Int) != (y:Int)) = !(x==y):=by
      intro x y
      by_cases hh:x=y
      ·rw[hh];simp
      ·have h1:((x:Int) != (y:Int))=true:=bne_iff_ne.2 ae;have h2:(x==y)=false:=beq_eq_false_iff_ne.2 hh;rw[h1,h2];rfl
     exact hcast _ _
    clear hp hres;refine Ca.bQ (n:=N+90) ?_;rw[aA rfl (k12:E0.fn _=_) rfl];generalize (s==s'&&decide (a=a')&&decide (b=b'))=r1,lK Mo.eq p p'=r2,(ps.length==ps'.length)=b4 at*;simp only[raw,LD,PD]at*;generalize LL a=x1,LL b=x2 at*;generalize LL a'=x3,LL b'=x4,List.map Mo.d p=y1 at*;generalize List.map Mo.d p'=y2,List.map W.d ps=y3 at*;generalize List.map W.d ps'=y4 at*;cases r1
    ·simp[f12,t1]
    ·cases h1:(c==c')
     ·rw[h1]at e1;simp[f12,t1,e1]
     ·rw[h1]at e1;cases h2:(i==i')
      ·simp[f12,t1,e1,h2]
      ·cases h3:(u==u')
       ·rw[h3]at e3;simp[f12,t1,e1,h2,e3]
       ·rw[h3]at e3;cases r2
        ·simp[f12,t1,e1,h2,e3,t2]
        ·cases b4
         ·simp[f12,t1,e1,h2,e3,t2,m1,m2,e4]
         ·exact absurd (by rw[h1,h2,h3];rfl) hall
theorem yU (v:W)(hv:v.OK):∀ w:W,w.OK->Ca E0 12 [.d v.d,.d w.d] (dB (v.eq w),none):=by
 induction hv with
 | @mk s a b c i u p ps ha hb la lb hpo lp h ih =>
  intro w hw;refine MQ _ w (.mk ha hb la lb hpo lp h) hw ?_;cases hw with
  | @mk s' a' b' c' i' u' p' ps' ha' hb' la' lb' U7 lp' h' =>
   simp only;exact fun x hx y hy=>ih x hx y (h' y hy)
end Fi.S
