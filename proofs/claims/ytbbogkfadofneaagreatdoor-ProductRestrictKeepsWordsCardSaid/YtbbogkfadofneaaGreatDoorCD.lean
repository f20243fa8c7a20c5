import Derived.Test.YtbbogkfadofneaaGreatDoorCC
set_option linter.unusedVariables false
set_option linter.unusedSimpArgs false
noncomputable section
namespace Fi.S
open Go Fi
set_option maxHeartbeats 8000000
def lM (e:Int × Int × Int):D:=.a [vI e.1,vI e.2.1,vI e.2.2]
def gy (x:Int):Prop:=-9223372036854775808<=x/\x<9223372036854775808
noncomputable def Gt (e:Int × Int × Int):Int:=ai .i64 (ai .i64 (ai .i64 (0+e.1)+e.2.1)+e.2.2)
theorem BC (n:Nat)(e:Int × Int × Int):CL E0 (n+100) 254 [.d (lM e)] []=some (dI (Gt e),none):=by
 rw[av rfl (aM 254 f254:E0.fn _=_) rfl];obtain⟨a,b,c⟩:=e;simp only[lM,Gt];have w1:ai .i64 1=1:=wrap_i64 ae;have w2:ai .i64 2=2:=wrap_i64 ae;have w3:ai .i64 3=3:=wrap_i64 ae;simp[f254,aC,w1,w2,w3]
def fG (x y:Int):Int:=if x<y then -1 else if y<x then 1 else 0
theorem ou (n:Nat)(x y:Int):CL E0 (n+60) 255 [dI x,dI y] []=some (dI (fG x y),none):=by
 have Lm:∀ m z,CL E0 (m+20) 282 [dI z] []=some (dB false,none):=by
  intro m z;rw[av rfl (k282:E0.fn _=_) rfl];simp[f282]
 rw[av rfl (k255:E0.fn _=_) rfl];unfold fG
 by_cases h1:x<y
 ·simp[f255,Lm,h1]
 ·by_cases h2:y<x
  ·simp[f255,Lm,h1,h2]
  ·simp[f255,Lm,h1,h2]
def je (d e:Int × Int × Int):Int :=
 if fG e.1 d.1≠0 then fG e.1 d.1 else if fG e.2.1 d.2.1≠0 then fG e.2.1 d.2.1 else fG e.2.2 d.2.2
theorem Lp (n:Nat)(d e:Int × Int × Int):CL E0 (n+200) 204 [.d (lM d),.d (lM e)] []=some (dI (je d e),none):=by
 obtain⟨a,b,c⟩:=d;obtain⟨a',b',c'⟩:=e;have c1:=fun m=>ou m a' a
 have c2:=fun m=>ou m b' b
 have c3:=fun m=>ou m c' c
 rw[av rfl (k204:E0.fn _=_) rfl];simp only[lM,je];have w1:ai .i64 1=1:=wrap_i64 ae;have w2:ai .i64 2=2:=wrap_i64 ae;have w3:ai .i64 3=3:=wrap_i64 ae;generalize fG a' a=x,fG b' b=y,fG c' c=z at*
 by_cases h1:x=0
 ·subst h1
  by_cases h2:y=0
  ·subst h2
   by_cases h3:z=0
   ·subst h3;simp[f204,aC,w1,w2,w3,c1,c2,c3]
   ·have e3:(z != 0)=true:=by simpa using h3
    simp[f204,aC,w1,w2,c1,c2,c3,e3]
  ·have e2:(y != 0)=true:=by simpa using h2
   simp[f204,aC,w1,c1,c2,e2,h2]
 ·have e1:(x != 0)=true:=by simpa using h1
  simp[f204,aC,c1,e1,h1]
structure Mo where
 e:Int × Int × Int
 s:Bool
 a:List Nat
 b:List Nat
def Mo.d (m:Mo):D:=.a [vI m.e.1,vI m.e.2.1,vI m.e.2.2,vB m.s,LD m.a,LD m.b]
def Mo.ok (m:Mo):Prop:=bY m.a/\bY m.b/\m.a.length<=1000/\m.b.length<=1000
def kS (x:Int):Bool := !(decide (x<0)||decide (5<x))
def bR (e:Int × Int × Int):Bool:=kS e.1&&kS e.2.1&&kS e.2.2&&decide (e.1+e.2.1+e.2.2<=5)
def Mo.fits (m:Mo):Bool:=bR m.e&&(dS m.s m.a m.b&&decide (m.a≠[]))
theorem uS {e:Int × Int × Int}(h1:kS e.1=true)(h2:kS e.2.1=true)(h3:kS e.2.2=true):Gt e=e.1+e.2.1+e.2.2:=by
 simp only[kS,Qs2,Bool.or_eq_false_iff,decide_eq_false_iff_not]at h1 h2 h3;unfold Gt;rw[wrap_i64 (z:=0+e.1) ae,wrap_i64 (z:=0+e.1+e.2.1) ae,wrap_i64 ae];omega
theorem Yt (m:Mo)(hm:m.ok):Ca E0 203 [.d m.d] (dB m.fits,none):=by
 obtain⟨e,s,a,b⟩:=m;obtain⟨ha,hb,la,lb⟩:=hm;simp only at ha hb la lb;obtain⟨k1,t1⟩:=(x_ s a b ae ae ha hb).any;have w1:ai .i64 1=1:=wrap_i64 ae;have w2:ai .i64 2=2:=wrap_i64 ae;have w3:ai .i64 3=3:=wrap_i64 ae;have hdg:=fun n=>BC n e
 obtain⟨x,y,z⟩:=e;simp only[Mo.d,Mo.fits,bR,lM]at*;have ex:∀ u:Int,(kS u=true/\¬ u<0/\¬ 5<u)\/(kS u=false/\u<0)\/(kS u=false/\¬ u<0/\5<u):=by
  intro u;unfold kS
  by_cases h1:u<0
  ·simp[h1]
  ·by_cases h2:5<u
   ·simp[h1,h2]
   ·simp[h1,h2]
 rcases ex x with ⟨q1,a1,a2⟩|⟨q1,a1⟩|⟨q1,a1,a2⟩
 ·rcases ex y with ⟨q2,b1,b2⟩|⟨q2,b1⟩|⟨q2,b1,b2⟩
  ·rcases ex z with ⟨q3,c1,c2⟩|⟨q3,c1⟩|⟨q3,c1,c2⟩
   ·rw[uS q1 q2 q3]at hdg;rw[q1,q2,q3];simp only[Qr2]
    by_cases hd:x+y+z<=5
    ·rw[decide_eq_true hd];cases hv:dS s a b
     ·rw[hv]at t1;replace t1:=t1 k1 ae;refine Ca.bP (n:=k1+200) ?_;rw[av rfl (k203:E0.fn _=_) rfl];simp only[raw,LD]at*;generalize LL a=as',LL b=bs',x+y+z=deg at*;simp[f203,aC,w1,w2,w3,a1,a2,b1,b2,c1,c2,hdg,hd,t1]
     ·rw[hv]at t1;have hq:=tq ha hb hv;have hz:=wy ha hb 1000 la lb ae hv;obtain⟨k2,t2⟩:=(vZ (cz s a b) ae).any;rw[<-hq]at t2;have hsg:((cz s a b).num.sign != 0)=decide (a≠[]):=by
       have e1:qn (cz s a b)=a:=by
        have:=hq;simp only[raw,qD,D.a.injEq,Xr2,LD,D.s.injEq,true_and]at this;have h3:=this.2.1;have h4:LL a=LL (qn (cz s a b)):=h3;rw[II,II]at h4;have h5:(a.map fun(x:Nat)=>(x:Int))=((qn (cz s a b)).map fun(x:Nat)=>(x:Int)):=by
         unfold LK at h4;exact(X32 (fun p q hpq=>by simpa using hpq)).1 h4
        exact(o9.1 h5).symm
       have e2:a=[]↔(cz s a b).num=0:=by
        have h6:qn (cz s a b)=[]↔(cz s a b).num=0:=by unfold qn;rw[d_,Xs2]
        rwa [e1]at h6
       by_cases h0:(cz s a b).num=0
       ·have h1:¬ (a≠[]):=fun h=>h (e2.2 h0)
        rw[decide_eq_false h1,h0];rfl
       ·have h1:¬ a=[]:=fun h=>h0 (e2.1 h)
        have h2:(cz s a b).num.sign≠0:=fun h=>h0 (Q90.1 h)
        simp[h1,h2]
      replace t1:=t1 (k1+k2) ae;replace t2:=t2 (k1+k2) ae;rw[<-hsg];generalize k1+k2=N at*;clear hq;generalize (cz s a b).num.sign=sg at*;refine Ca.bP (n:=N+200) ?_;rw[av rfl (k203:E0.fn _=_) rfl];simp only[raw,LD]at*;generalize LL a=as',LL b=bs',x+y+z=deg at*;simp[f203,aC,w1,w2,w3,a1,a2,b1,b2,c1,c2,hdg,hd,t1,t2]
    ·rw[decide_eq_false hd];refine Ca.bP (n:=300) ?_;rw[av rfl (k203:E0.fn _=_) rfl];simp only[LD]at*;generalize LL a=as',LL b=bs',x+y+z=deg at*;simp[f203,aC,w1,w2,w3,a1,a2,b1,b2,c1,c2,hdg,hd]
   ·rw[q3];refine Ca.bP (n:=300) ?_;rw[av rfl (k203:E0.fn _=_) rfl];simp only[LD]at*;simp[f203,aC,w1,w2,a1,a2,b1,b2,c1]
   ·rw[q3];refine Ca.bP (n:=300) ?_;rw[av rfl (k203:E0.fn _=_) rfl];simp only[LD]at*;simp[f203,aC,w1,w2,a1,a2,b1,b2,c1,c2]
  ·rw[q2];refine Ca.bP (n:=300) ?_;rw[av rfl (k203:E0.fn _=_) rfl];simp only[LD]at*;simp[f203,aC,w1,a1,a2,b1]
  ·rw[q2];refine Ca.bP (n:=300) ?_;rw[av rfl (k203:E0.fn _=_) rfl];simp only[LD]at*;simp[f203,aC,w1,a1,a2,b1,b2]
 ·rw[q1];refine Ca.bP (n:=300) ?_;rw[av rfl (k203:E0.fn _=_) rfl];simp only[LD]at*;simp[f203,aC,a1]
 ·rw[q1];refine Ca.bP (n:=300) ?_;rw[av rfl (k203:E0.fn _=_) rfl];simp only[LD]at*;simp[f203,aC,a1,a2]
def PD (l:List Mo):D:=.s 6 (l.map Mo.d)
def zi:Option Mo->List Mo->Bool
 | _,[]=>true
 | none,m::r=>m.fits&&zi (some m) r
 | some q,m::r=>m.fits&&decide (je q.e m.e<0)&&zi (some m) r
def rf:Option Mo->Mo->Bool
 | none,_=>true
 | some q,m=>decide (je q.e m.e<0)
def Po (l:List Mo):Prop:=(∀ m ∈ l,m.ok)/\l.length<=1000000
def Yu:aF:=f150.body.r.l.r.bl.lp
def Xu (l:List Mo)(k:Nat)(bs:List ah)(t:FV):St:=(st0 [.d (PD l),.u,.u,.u,.d (PD l),dI l.length,dI k,t,.u] bs)
def pvF (bs:List ah):St:=(st0 (.u::dB false::sO) bs)
theorem tu {α:Type}{bs:List α}{k:Nat}{o:α}(h:bs.length=k):(bs++[o])[k]?=some o:=by subst h;simp
theorem tC {α:Type}{bs:List α}{k:Nat}{o o':α}(h:bs.length=k):(bs++[o]).set k o'=bs++[o']:=by subst h;simp
theorem Tx (l:List Mo)(k:Nat)(bs:List ah)(m:Mo)(hl:Po l)(hk:l[k]?=some m)(hb:bs.length=k) :
  ∃ bs',bs'.length=k+1/\Ex E0 Yu (Xu l k bs .u) (if m.fits&&rf (if k=0 then none else l[k-1]?) m then(.norm,Xu l (k+1) bs' .u) else(.ret,pvF bs')):=by
 have ahS:=hl.1 m (Qa2 hk);have hkl:k<l.length:=(bq hk)
 have hll:=hl.2;obtain⟨N,hf⟩:=(Yt m ahS).get;have hes:(l.map Mo.d)[k]?=some m.d:=by simp[hk]
 have hlen:(l.map Mo.d).length=l.length:=aA;have aR:ai .i64 ((k:Int)+1)=(k:Int)+1:=wrap_i64 ae;have hk1:((k+1:Nat):Int)=(k:Int)+1:=ae;have hk0:(0:Int)<=(k:Int):=ae;have hg:=fun(o:ah)=>tu (o:=o) hb
 have hs:=fun(o o':ah)=>tC (o:=o) (o':=o') hb
 refine⟨bs++[.box (m.d.cells.map .d)],by simp[hb],Ex.of (n:=N+300) ?_⟩;unfold Xu pvF;rw[hk1];simp only[PD];cases hfit:m.fits
 ·rw[hfit]at hf;obtain⟨e,s,a,b⟩:=m;simp only[Mo.d]at*;generalize LL a=x1,LL b=x2 at*;simp only[LD]at*;generalize List.map Mo.d l=es at*;have i1:=idx hes;simp[Yu,f150,hkl,hk0,hes,i1,hlen,hb,hg,hs,hf]
 ·rw[hfit]at hf
  by_cases hz:k=0
  ·subst hz;rw[if_pos rfl];simp only[rf];obtain⟨e,s,a,b⟩:=m;simp only[Mo.d]at*;generalize LL a=x1,LL b=x2 at*;simp only[LD]at*;generalize List.map Mo.d l=es at*;have i1:=idx hes;have w1:ai .i64 1=1:=wrap_i64 ae;simp[Yu,f150,hkl,hes,i1,hlen,hb,hg,hs,hf,w1]
  ·rw[if_neg hz];obtain⟨q,hq⟩:∃ q,l[k-1]?=some q:=⟨l[k-1]'(by omega),Qa1 ae⟩
   rw[hq];have Ty:(l.map Mo.d)[k-1]?=some q.d:=by simp[hq]
   have Tz:=fun n=>Lp n q.e m.e
   have hdec:ai .i64 ((k:Int)-1)=((k-1:Nat):Int):=by rw[wrap_i64 ae];omega
   have hkp:(0:Int)<(k:Int):=ae;have TA:0<k:=ae;have TB:k-1<l.length:=ae;have hd:decide (je q.e m.e<0) = !decide (0<=je q.e m.e):=by rw[<-decide_not];simp only[Int.not_le]
   simp only[rf,hd];obtain⟨e,s,a,b⟩:=m;obtain⟨e',s',a',b'⟩:=q;simp only[Mo.d,lM]at*;generalize je e' e=og,LL a=x1,LL b=x2 at*;generalize LL a'=x3,LL b'=x4 at*;simp only[LD]at*;generalize List.map Mo.d l=es at*;have i1:=idx hes;have i2:=idx Ty;generalize k-1=k' at*
   by_cases hog:0<=og
   ·simp[Yu,f150,hkl,hk0,TA,hes,i1,Ty,i2,hlen,hb,hg,hs,hf,Tz,hdec,TB,hog]
   ·simp[Yu,f150,hkl,hk0,TA,hes,i1,Ty,i2,hlen,hb,hg,hs,hf,Tz,hdec,TB,hog,aR]
theorem IM (l:List Mo)(k:Nat)(m:Mo)(hk:l[k]?=some m) :
  zi (if k=0 then none else l[k-1]?) (l.drop k)=(m.fits&&rf (if k=0 then none else l[k-1]?) m&&zi (some m) (l.drop (k+1))):=by
 have hkl:=(bq hk)
 have hd:l.drop k=m::l.drop (k+1):=by
  rw[Qk1 hkl];rw[Qa1 hkl]at hk;rw[Qw1 hk]
 rw[hd];cases (if k=0 then none else l[k-1]?) with
 | none=>simp[zi,rf]
 | some q=>simp[zi,rf]
theorem Yv (l:List Mo)(hl:Po l) :
  ∃ r,Ex E0 (.loop Yu) (Xu l 0 [] .u) r/\((zi none l=true/\∃ bs,r=(.exit 0,Xu l l.length bs (dB false)))\/(zi none l=false/\∃ bs,r=(.ret,pvF bs))):=by
 refine Ex.inv (S:=fun t:Nat × List ah=>Xu l t.1 t.2 .u) (fun t=>l.length-t.1) (fun t=>t.1<=l.length/\t.2.length=t.1/\zi none l=zi (if t.1=0 then none else l[t.1-1]?) (l.drop t.1)) _ ?_ (0,[]) ⟨aA,rfl,aA⟩;rintro⟨k,bs⟩ ⟨h1,h2,h3⟩;simp only at h1 h2 h3
 by_cases hk:k<l.length
 ·have hm:l[k]?=some (l[k]'hk):=Qa1 hk;generalize l[k]'hk=m at hm;obtain⟨bs',hb',hr⟩:=Tx l k bs m hl hm h2;rw[IM l k m hm]at h3;cases hc:(m.fits&&rf (if k=0 then none else l[k-1]?) m)
  ·rw[hc]at hr h3;exact .inr ⟨_,hr,aA,.inr ⟨by simpa using h3,bs',rfl⟩⟩
  ·rw[hc]at hr h3;refine .inl ⟨(k+1,bs'),hr,by simp only;omega,by simp only;omega,hb',?_⟩;rw[h3,if_neg aA,Qr2];simp only[Q02,hm]
 ·have he:k=l.length:=ae;subst he;rw[Qu2]at h3;refine .inr ⟨_,Ex.of (n:=60) ?_,?_,.inl ⟨?_,bs,rfl⟩⟩
  ·unfold Xu;generalize PD l=p at*;simp[Yu,f150]
  ·simp
  ·rw[h3];cases (if l.length=0 then none else l[l.length-1]?)<;>simp[zi]
theorem EI (l:List Mo)(hl:Po l):Ca E0 150 [.d (PD l)] (dB (zi none l),none):=by
 obtain⟨r,hr,h⟩:=Yv l hl;have hlen:(l.map Mo.d).length=l.length:=aA;have hA:Ex E0 f150.body.l (st0 (.d (PD l)::zZ) []) (.norm,(st0 (.d (PD l)::zZ) [])):=by
  refine Ex.of (n:=40) ?_;generalize PD l=p at*;simp[f150]
 have hB:Ex E0 f150.body.r.l.l (st0 (.d (PD l)::zZ) []) (.norm,Xu l 0 [] .u):=by
  refine Ex.of (n:=40) ?_;unfold Xu;simp only[PD];generalize List.map Mo.d l=es at*;simp[f150,hlen]
 rcases h with ⟨hv,bs,rfl⟩|⟨hv,bs,rfl⟩
 ·rw[hv];refine Ca.body (o:=.ret) (st1:=(st0 (.u::dB true::sO) bs)) rfl (k150:E0.fn _=_) rfl ?_ (by intro id h;cases h) ?_
  ·show Ex E0 (.seq f150.body.l (.seq (.seq f150.body.r.l.l (.block 0 (.loop Yu))) f150.body.r.r)) _ _;refine hA.seq ((hB.seq hr.block).seq (Ex.of (n:=40) ?_));unfold Xu;generalize PD l=p at*;simp[f150]
  ·simp[f150]
 ·rw[hv];refine Ca.body (o:=.ret) (st1:=pvF bs) rfl (k150:E0.fn _=_) rfl ?_ (by intro id h;cases h) ?_
  ·show Ex E0 (.seq f150.body.l (.seq (.seq f150.body.r.l.l (.block 0 (.loop Yu))) f150.body.r.r)) _ _;exact hA.seq (hB.seq hr.dA).dX
  ·simp[f150,pvF]
theorem ry (u:Int):(kS u=true/\¬ u<0/\¬ 5<u/\0<=u/\u<=5)\/(kS u=false/\u<0)\/(kS u=false/\¬ u<0/\5<u):=by
 unfold kS
 by_cases h1:u<0
 ·simp[h1]
 ·by_cases h2:5<u
  ·simp[h1,h2]
  ·refine .inl ⟨by simp[h1,h2],h1,h2,ae,ae⟩
theorem o_ (n:Nat)(e:Int × Int × Int):CL E0 (n+300) 167 [.d (lM e)] []=some (dB (bR e),none):=by
 rw[av rfl (aM 167 f167:E0.fn _=_) rfl];obtain⟨x,y,z⟩:=e;simp only[lM,bR];have w1:ai .i64 1=1:=wrap_i64 ae;have w2:ai .i64 2=2:=wrap_i64 ae;have w3:ai .i64 3=3:=wrap_i64 ae;rcases ry x with ⟨q1,a1,a2,a3,a4⟩|⟨q1,a1⟩|⟨q1,a1,a2⟩
 ·have u1:ai .i64 x=x:=wrap_i64 ae;rcases ry y with ⟨q2,b1,b2,b3,b4⟩|⟨q2,b1⟩|⟨q2,b1,b2⟩
  ·have u2:ai .i64 (x+y)=x+y:=wrap_i64 ae;rcases ry z with ⟨q3,c1,c2,c3,c4⟩|⟨q3,c1⟩|⟨q3,c1,c2⟩
   ·have u3:ai .i64 (x+y+z)=x+y+z:=wrap_i64 ae;rw[q1,q2,q3];simp[f167,aC,w1,w2,w3,a1,a2,b1,b2,c1,c2,u1,u2,u3]
   ·rw[q3];simp[f167,aC,w1,w2,a1,a2,b1,b2,c1,u1,u2]
   ·rw[q3];simp[f167,aC,w1,w2,a1,a2,b1,b2,c1,c2,u1,u2]
  ·rw[q2];simp[f167,aC,w1,a1,a2,b1,u1]
  ·rw[q2];simp[f167,aC,w1,a1,a2,b1,b2,u1]
 ·rw[q1];simp[f167,aC,a1]
 ·rw[q1];simp[f167,aC,a1,a2]
theorem j5 (n:Nat)(d e:Int × Int × Int):CL E0 (n+200) 168 [.d (lM e),.d (lM d)] []=some (dI (je d e),none):=by
 rw[av rfl (aM 168 f168:E0.fn _=_) rfl];obtain⟨a,b,c⟩:=d;obtain⟨a',b',c'⟩:=e;simp only[lM,je,fG];have w1:ai .i64 1=1:=wrap_i64 ae;have w2:ai .i64 2=2:=wrap_i64 ae;have w3:ai .i64 3=3:=wrap_i64 ae;rcases Q81 a' a with h|h|h
 ·have e1:(a' != a)=true:=by simp;omega
  simp[f168,aC,h,e1]
 ·subst h;rcases Q81 b' b with h|h|h
  ·have e1:(b' != b)=true:=by simp;omega
   simp[f168,aC,w1,h,e1]
  ·subst h;rcases Q81 c' c with h|h|h
   ·have e1:(c' != c)=true:=by simp;omega
    simp[f168,aC,w1,w2,h,e1]
   ·subst h;simp[f168,aC,w1,w2,w3]
   ·have e1:(c' != c)=true:=by simp;omega
    have e2:¬ c'<c:=ae;simp[f168,aC,w1,w2,h,e1,e2]
  ·have e1:(b' != b)=true:=by simp;omega
   have e2:¬ b'<b:=ae;simp[f168,aC,w1,h,e1,e2]
 ·have e1:(a' != a)=true:=by simp;omega
  have e2:¬ a'<a:=ae;simp[f168,aC,h,e1,e2]
def TC:aF:=f99.body.r.l.r.bl.lp
def Xv (l:List Mo)(k:Nat)(t:FV):St:=(st0 [.d (PD l),.u,dI k,t,.u] [])
def qvF:St:=(st0 (.u::dB false::u3K) [])
theorem TD (l:List Mo)(k:Nat)(m:Mo)(hl:Po l)(hk:l[k]?=some m) :
  Ex E0 TC (Xv l k .u) (if m.fits&&rf (if k=0 then none else l[k-1]?) m then(.norm,Xv l (k+1) .u) else(.ret,qvF)):=by
 obtain⟨ha,hb,la,lb⟩:=hl.1 m (Qa2 hk);have hkl:k<l.length:=(bq hk)
 have hll:=hl.2;have hp:=fun n=>o_ n m.e
 obtain⟨N,hv⟩:=(sZ m.s m.a m.b ae ae ha hb).any;have hes:(l.map Mo.d)[k]?=some m.d:=by simp[hk]
 have hlen:(l.map Mo.d).length=l.length:=aA;have aR:ai .i64 ((k:Int)+1)=(k:Int)+1:=wrap_i64 ae;have hk1:((k+1:Nat):Int)=(k:Int)+1:=ae;have hk0:(0:Int)<=(k:Int):=ae;unfold Xv qvF;rw[hk1];simp only[PD];cases h1:bR m.e
 ·have e1:m.fits=false:=by simp[Mo.fits,h1]
  rw[e1];rw[h1]at hp;refine Ex.of (n:=400) ?_;obtain⟨e,s,a,b⟩:=m;simp only[Mo.d,lM]at*;generalize LL a=x1,LL b=x2 at*;simp only[LD]at*;generalize List.map Mo.d l=es at*;have i1:=idx hes;simp[TC,f99,hkl,hk0,i1,hlen,hp]
 ·rw[h1]at hp;cases h2:dS m.s m.a m.b
  ·have e1:m.fits=false:=by simp[Mo.fits,h2]
   rw[e1];rw[h2]at hv;replace hv:=hv N ae;refine Ex.of (n:=N+400) ?_;obtain⟨e,s,a,b⟩:=m;simp only[Mo.d,lM,raw]at*;generalize LL a=x1,LL b=x2 at*;simp only[LD]at*;generalize List.map Mo.d l=es at*;have i1:=idx hes;simp[TC,f99,hkl,hk0,i1,hlen,hp,hv]
  ·rw[h2]at hv;have hq:=tq ha hb h2;have hz:=wy ha hb 1000 la lb ae h2;obtain⟨N2,hs⟩:=(mJ (cz m.s m.a m.b) ae).any;rw[<-hq]at hs;have hsg:((cz m.s m.a m.b).num.sign==0)=decide (m.a=[]):=by
    have e1:qn (cz m.s m.a m.b)=m.a:=by
     have:=hq;simp only[raw,qD,D.a.injEq,Xr2,LD,D.s.injEq,true_and]at this;have h4:LL m.a=LL (qn (cz m.s m.a m.b)):=this.2.1;rw[II,II]at h4;have h5:(m.a.map fun(x:Nat)=>(x:Int))=((qn (cz m.s m.a m.b)).map fun(x:Nat)=>(x:Int)):=by
      unfold LK at h4;exact(X32 (fun p q hpq=>by simpa using hpq)).1 h4
     exact(o9.1 h5).symm
    have e2:m.a=[]↔(cz m.s m.a m.b).num=0:=by
     have h6:qn (cz m.s m.a m.b)=[]↔(cz m.s m.a m.b).num=0:=by unfold qn;rw[d_,Xs2]
     rwa [e1]at h6
    by_cases h0:(cz m.s m.a m.b).num=0
    ·rw[decide_eq_true (e2.2 h0),h0];rfl
    ·have h1:¬ m.a=[]:=fun h=>h0 (e2.1 h)
     have h2:(cz m.s m.a m.b).num.sign≠0:=fun h=>h0 (Q90.1 h)
     rw[decide_eq_false h1];simpa using h2
   replace hv:=hv (N+N2) ae;replace hs:=hs (N+N2) ae;generalize N+N2=M at*;clear hq hz;generalize (cz m.s m.a m.b).num.sign=sg at*
   by_cases h3:m.a=[]
   ·have e1:m.fits=false:=by simp[Mo.fits,h3]
    rw[e1];rw[decide_eq_true h3]at hsg;refine Ex.of (n:=M+400) ?_;obtain⟨e,s,a,b⟩:=m;simp only[Mo.d,lM,raw]at*;generalize LL a=x1,LL b=x2 at*;simp only[LD]at*;generalize List.map Mo.d l=es at*;have i1:=idx hes;simp[TC,f99,hkl,hk0,i1,hlen,hp,hv,hs,hsg]
   ·have e1:m.fits=true:=by simp[Mo.fits,h1,h2,h3]
    rw[e1];rw[decide_eq_false h3]at hsg
    by_cases ae9:k=0
    ·subst ae9;rw[if_pos rfl];simp only[rf];have w1:ai .i64 1=1:=wrap_i64 ae;refine Ex.of (n:=M+400) ?_;obtain⟨e,s,a,b⟩:=m;simp only[Mo.d,lM,raw]at*;generalize LL a=x1,LL b=x2 at*;simp only[LD]at*;generalize List.map Mo.d l=es at*;have i1:=idx hes;simp[TC,f99,hkl,i1,hlen,hp,hv,hs,hsg,w1]
    ·rw[if_neg ae9];obtain⟨q,hq⟩:∃ q,l[k-1]?=some q:=⟨l[k-1]'(by omega),Qa1 ae⟩
     rw[hq];have Ty:(l.map Mo.d)[k-1]?=some q.d:=by simp[hq]
     have Tz:=fun n=>j5 n q.e m.e
     have hdec:ai .i64 ((k:Int)-1)=((k-1:Nat):Int):=by rw[wrap_i64 ae];omega
     have TA:0<k:=ae;have TB:k-1<l.length:=ae;have hd:decide (je q.e m.e<0) = !decide (0<=je q.e m.e):=by rw[<-decide_not];simp only[Int.not_le]
     simp only[rf,hd];refine Ex.of (n:=M+400) ?_;obtain⟨e,s,a,b⟩:=m;obtain⟨e',s',a',b'⟩:=q;simp only[Mo.d,lM,raw]at*;generalize je e' e=og,LL a=x1,LL b=x2 at*;generalize LL a'=x3,LL b'=x4 at*;simp only[LD]at*;generalize List.map Mo.d l=es at*;have i1:=idx hes;have i2:=idx Ty;generalize k-1=k' at*
     by_cases hog:0<=og
     ·simp[TC,f99,hkl,hk0,TA,i1,i2,hlen,hp,hv,hs,hsg,Tz,hdec,TB,hog]
     ·simp[TC,f99,hkl,hk0,TA,i1,i2,hlen,hp,hv,hs,hsg,Tz,hdec,TB,hog,aR]
theorem Yw (l:List Mo)(hl:Po l) :
  ∃ r,Ex E0 (.loop TC) (Xv l 0 .u) r/\((zi none l=true/\r=(.exit 0,Xv l l.length (dB false)))\/(zi none l=false/\r=(.ret,qvF))):=by
 refine Ex.inv (S:=fun k:Nat=>Xv l k .u) (fun k=>l.length-k) (fun k=>k<=l.length/\zi none l=zi (if k=0 then none else l[k-1]?) (l.drop k)) _ ?_ 0 ⟨aA,aA⟩;rintro k ⟨h1,h3⟩
 by_cases hk:k<l.length
 ·have hm:l[k]?=some (l[k]'hk):=Qa1 hk;generalize l[k]'hk=m at hm;have hr:=TD l k m hl hm;rw[IM l k m hm]at h3;cases hc:(m.fits&&rf (if k=0 then none else l[k-1]?) m)
  ·rw[hc]at hr h3;exact .inr ⟨_,hr,aA,.inr ⟨by simpa using h3,rfl⟩⟩
  ·rw[hc]at hr h3;refine .inl ⟨k+1,hr,ae,ae,?_⟩;rw[h3,if_neg aA,Qr2];simp only[Q02,hm]
 ·have he:k=l.length:=ae;subst he;have hlen:(l.map Mo.d).length=l.length:=aA;rw[Qu2]at h3;refine .inr ⟨_,Ex.of (n:=60) ?_,?_,.inl ⟨?_,rfl⟩⟩
  ·unfold Xv;simp only[PD];generalize List.map Mo.d l=es at*;simp[TC,f99,hlen]
  ·simp
  ·rw[h3];cases (if l.length=0 then none else l[l.length-1]?)<;>simp[zi]
theorem EJ (l:List Mo)(hl:Po l):Ca E0 99 [.d (PD l)] (dB (zi none l),none):=by
 obtain⟨r,hr,h⟩:=Yw l hl;have hA:Ex E0 f99.body.l (st0 (.d (PD l)::vR) []) (.norm,(st0 (.d (PD l)::vR) [])):=by
  refine Ex.of (n:=40) ?_;generalize PD l=p at*;simp[f99]
 have hB:Ex E0 f99.body.r.l.l (st0 (.d (PD l)::vR) []) (.norm,Xv l 0 .u):=by
  refine Ex.of (n:=40) ?_;unfold Xv;generalize PD l=p at*;simp[f99]
 rcases h with ⟨hv,rfl⟩|⟨hv,rfl⟩
 ·rw[hv];refine Ca.body (o:=.ret) (st1:=(st0 (.u::dB true::u3K) [])) rfl (k99:E0.fn _=_) rfl ?_ (by intro id h;cases h) ?_
  ·show Ex E0 (.seq f99.body.l (.seq (.seq f99.body.r.l.l (.block 0 (.loop TC))) f99.body.r.r)) _ _;refine hA.seq ((hB.seq hr.block).seq (Ex.of (n:=40) ?_));unfold Xv;generalize PD l=p at*;simp[f99]
  ·simp[f99]
 ·rw[hv];refine Ca.body (o:=.ret) (st1:=qvF) rfl (k99:E0.fn _=_) rfl ?_ (by intro id h;cases h) ?_
  ·show Ex E0 (.seq f99.body.l (.seq (.seq f99.body.r.l.l (.block 0 (.loop TC))) f99.body.r.r)) _ _;exact hA.seq (hB.seq hr.dA).dX
  ·simp[f99,qvF]
def kT {α:Type}(eq:α->α->Bool):List α->List α->Bool
 | [],[]=>true
 | x::r,y::s=>eq x y&&kT eq r s
 | _,_=>false
theorem mO {α:Type}{eq:α->α->Bool}:∀ {a b:List α},kT eq a b=true->a.length=b.length
 | [],[],_=>rfl
 | x::r,y::s,h=>by
  simp only[kT,Qb1]at h;simp[mO h.2]
 | [],_::_,h=>by simp[kT]at h
 | _::_,[],h=>by simp[kT]at h
def Mo.eq (m n:Mo):Bool:=decide (m.e=n.e)&&(m.s==n.s&&decide (m.a=n.a)&&decide (m.b=n.b))
theorem Yx (m n:Mo)(hm:m.ok)(hn:n.ok):Ca E0 71 [.d m.d,.d n.d] (dB (m.eq n),none):=by
 obtain⟨_,_,la,lb⟩:=hm;obtain⟨_,_,la',lb'⟩:=hn;obtain⟨N,t⟩:=(Bz m.s n.s m.a m.b n.a n.b ae ae ae ae).get;have he:decide (m.e=n.e)=(m.e.1==n.e.1&&(m.e.2.1==n.e.2.1&&m.e.2.2==n.e.2.2)):=by
  obtain⟨⟨x,y,z⟩,_,_,_⟩:=m;obtain⟨⟨x',y',z'⟩,_,_,_⟩:=n;simp only[Qm2,Bool.decide_and];rfl
 refine Ca.bP (n:=N+60) ?_;rw[av rfl (aM 71 f71:E0.fn _=_) rfl];unfold Mo.eq;rw[he];generalize (m.s==n.s&&decide (m.a=n.a)&&decide (m.b=n.b))=r at*;obtain⟨⟨x,y,z⟩,s,a,b⟩:=m;obtain⟨⟨x',y',z'⟩,s',a',b'⟩:=n;simp only[Mo.d,raw,LD]at*;generalize LL a=x1,LL b=x2 at*;generalize LL a'=x3,LL b'=x4 at*;cases h1:(x==x')<;>cases h2:(y==y')<;>cases h3:(z==z')<;>simp[f71,dG,h1,h2,h3,t]
def Lr:aF:=f73.body.r.r.l.r.bl.lp
def D9 (l1 l2:List Mo)(g k:Nat)(bs:List ah)(t:FV):St:=(st0 [.u,.d (.s 6 (l2.map Mo.d)),.d (.fn g),.u,.u,.u,.u,.u,.d (.s 6 (l1.map Mo.d)),dI l1.length,dI k,t,.u] bs)
def TE (bs:List ah):St:=(st0 (.u::.u::.u::dB false::NB) bs)
theorem PK (l1 l2:List Mo)(g k:Nat)(bs:List ah)(x y:Mo)(v:Bool)(h1:l1.length<=1000000)(hx:l1[k]?=some x)(hy:l2[k]?=some y)(hc:Ca E0 g [.d x.d,.d y.d] (dB v,none)) :
  ∃ bs',Ex E0 Lr (D9 l1 l2 g k bs .u) (if v then(.norm,D9 l1 l2 g (k+1) bs' .u) else(.ret,TE bs')):=by
 have hkl:k<l1.length:=(bq hx)
 have pE:k<l2.length:=(bq hy)
 obtain⟨N,hf⟩:=hc.get;have e1:(l1.map Mo.d)[k]?=some x.d:=by simp[hx]
 have e2:(l2.map Mo.d)[k]?=some y.d:=by simp[hy]
 have n1:(l1.map Mo.d).length=l1.length:=aA;have n2:(l2.map Mo.d).length=l2.length:=aA;have aR:ai .i64 ((k:Int)+1)=(k:Int)+1:=wrap_i64 ae;have hk1:((k+1:Nat):Int)=(k:Int)+1:=ae;have hk0:(0:Int)<=(k:Int):=ae;obtain⟨B,hB⟩:∃ B,bs.length=B:=⟨_,rfl⟩
 have hg:=fun(o:ah)=>tu (o:=o) hB
 have hs:=fun(o o':ah)=>tC (o:=o) (o':=o') hB
 have hg2:=fun(o o2:ah)=>tu (bs:=bs++[o]) (o:=o2) (k:=B+1) (by simp[hB])
 have hs2:=fun(o o2 o':ah)=>tC (bs:=bs++[o]) (o:=o2) (o':=o') (k:=B+1) (by simp[hB])
 have hg3:∀ (o o2:ah),(bs++[o]++[o2])[B]?=some o:=fun o o2=>by rw[Qp0,Qc0 ae,hB];simp
 simp only[Qp0,Xa2,Qw0]at hg2 hs2 hg3;refine⟨bs++[.box (x.d.cells.map .d)]++[.box (y.d.cells.map .d)],Ex.of (n:=N+300) ?_⟩;unfold D9 TE;rw[hk1];obtain⟨ex,sx,ax,bx⟩:=x;obtain⟨ey,sy,ay,by2⟩:=y;simp only[Mo.d]at*;generalize LL ax=x1,LL bx=x2,LL ay=x3,LL by2=x4 at*;simp only[LD]at*;generalize List.map Mo.d l1=es1,List.map Mo.d l2=es2 at*;have i1:=idx e1;have i2:=idx e2;cases v
 ·simp[Lr,f73,hkl,pE,hk0,e1,e2,i1,i2,n1,n2,hB,hg,hs,hg2,hs2,hg3,hf]
 ·simp[Lr,f73,hkl,pE,hk0,e1,e2,i1,i2,n1,n2,hB,hg,hs,hg2,hs2,hg3,hf,aR]
theorem TG (eq:Mo->Mo->Bool)(l1 l2:List Mo)(g:Nat)(h1:l1.length<=1000000)(hl:l1.length=l2.length)(hc:∀ x ∈ l1,∀ y ∈ l2,Ca E0 g [.d x.d,.d y.d] (dB (eq x y),none)) :
  ∃ r,Ex E0 (.loop Lr) (D9 l1 l2 g 0 [] .u) r/\((kT eq l1 l2=true/\∃ bs,r=(.exit 0,D9 l1 l2 g l1.length bs (dB false)))\/(kT eq l1 l2=false/\∃ bs,r=(.ret,TE bs))):=by
 refine Ex.inv (S:=fun t:Nat × List ah=>D9 l1 l2 g t.1 t.2 .u) (fun t=>l1.length-t.1) (fun t=>t.1<=l1.length/\kT eq l1 l2=kT eq (l1.drop t.1) (l2.drop t.1)) _ ?_ (0,[]) ⟨aA,aA⟩;rintro⟨k,bs⟩ ⟨q1,q2⟩;simp only at q1 q2
 by_cases hk:k<l1.length
 ·have hx:l1[k]?=some (l1[k]'hk):=Qa1 hk;have hy:l2[k]?=some (l2[k]'(by omega)):=Qa1 ae;have d1:l1.drop k=l1[k]'hk::l1.drop (k+1):=Qk1 hk;have d2:l2.drop k=l2[k]'(by omega)::l2.drop (k+1):=Qk1 ae;obtain⟨bs',hr⟩:=PK l1 l2 g k bs _ _ _ h1 hx hy (hc _ (Qi0 hk) _ (Qi0 ae));rw[d1,d2]at q2;simp only[kT]at q2;cases hv:eq (l1[k]'hk) (l2[k]'(by omega))
  ·rw[hv]at hr q2;exact .inr ⟨_,hr,aA,.inr ⟨by simpa using q2,bs',rfl⟩⟩
  ·rw[hv]at hr q2;exact .inl ⟨(k+1,bs'),hr,by simp only;omega,by simp only;omega,by simpa using q2⟩
 ·have he:k=l1.length:=ae;subst he;rw[Qu2,hl,Qu2]at q2;refine .inr ⟨_,Ex.of (n:=60) ?_,?_,.inl ⟨by rw[q2];rfl,bs,rfl⟩⟩
  ·unfold D9;generalize List.map Mo.d l1=es1,List.map Mo.d l2=es2,l1.length=m at*;simp[Lr,f73]
  ·simp
theorem abX (eq:Mo->Mo->Bool)(l1 l2:List Mo)(g:Nat)(h1:l1.length<=1000000)(h2:l2.length<=1000000)(hc:∀ x ∈ l1,∀ y ∈ l2,Ca E0 g [.d x.d,.d y.d] (dB (eq x y),none)) :
  Ca E0 73 [.d (.s 6 (l1.map Mo.d)),.d (.s 6 (l2.map Mo.d)),.d (.fn g)] (dB (kT eq l1 l2),none):=by
 have n1:(l1.map Mo.d).length=l1.length:=aA;have n2:(l2.map Mo.d).length=l2.length:=aA;have hA:Ex E0 f73.body.l (st0 (.d (.s 6 (l1.map Mo.d))::.d (.s 6 (l2.map Mo.d))::.d (.fn g)::qP) []) (.norm,(st0 (.d (.s 6 (l1.map Mo.d))::.d (.s 6 (l2.map Mo.d))::.d (.fn g)::qP) [])):=by
  refine Ex.of (n:=40) ?_;generalize List.map Mo.d l1=es1,List.map Mo.d l2=es2 at*;simp[f73]
 by_cases hl:l1.length=l2.length
 ·obtain⟨r,hr,h⟩:=TG eq l1 l2 g h1 hl hc;have hB:Ex E0 f73.body.r.l (st0 (.d (.s 6 (l1.map Mo.d))::.d (.s 6 (l2.map Mo.d))::.d (.fn g)::qP) []) (.norm,(st0 (.d (.s 6 (l1.map Mo.d))::.d (.s 6 (l2.map Mo.d))::.d (.fn g)::.u::.u::.u::.u::dB false::lI) [])):=by
   refine Ex.of (n:=40) ?_;generalize List.map Mo.d l1=es1,List.map Mo.d l2=es2 at*;simp[f73,n1,n2,hl]
  have hC:Ex E0 f73.body.r.r.l.l (st0 (.d (.s 6 (l1.map Mo.d))::.d (.s 6 (l2.map Mo.d))::.d (.fn g)::.u::.u::.u::.u::dB false::lI) []) (.norm,D9 l1 l2 g 0 [] .u):=by
   refine Ex.of (n:=40) ?_;unfold D9;generalize List.map Mo.d l1=es1,List.map Mo.d l2=es2 at*;simp[f73,n1]
  rcases h with ⟨hv,bs,rfl⟩|⟨hv,bs,rfl⟩
  ·rw[hv];refine Ca.body (o:=.ret) (st1:=(st0 (.u::.u::.u::dB true::NB) bs)) rfl (k73:E0.fn _=_) rfl ?_ (by intro id h;cases h) ?_
   ·show Ex E0 (.seq f73.body.l (.seq f73.body.r.l (.seq (.seq f73.body.r.r.l.l (.block 0 (.loop Lr))) f73.body.r.r.r))) _ _;refine hA.seq (hB.seq ((hC.seq hr.block).seq (Ex.of (n:=40) ?_)));unfold D9;generalize List.map Mo.d l1=es1,List.map Mo.d l2=es2 at*;simp[f73]
   ·simp[f73]
  ·rw[hv];refine Ca.body (o:=.ret) (st1:=TE bs) rfl (k73:E0.fn _=_) rfl ?_ (by intro id h;cases h) ?_
   ·show Ex E0 (.seq f73.body.l (.seq f73.body.r.l (.seq (.seq f73.body.r.r.l.l (.block 0 (.loop Lr))) f73.body.r.r.r))) _ _;exact hA.seq (hB.seq (hC.seq hr.dA).dX)
   ·simp[f73,TE]
 ·have hf:kT eq l1 l2=false:=by
   cases h:kT eq l1 l2
   ·rfl
   ·exact absurd (mO h) hl
  have hne:((l1.length:Int) != (l2.length:Int))=true:=by simp;omega
  rw[hf];refine Ca.bP (n:=60) ?_;rw[av rfl (k73:E0.fn _=_) rfl];generalize List.map Mo.d l1=es1,List.map Mo.d l2=es2 at*;simp[f73,n1,n2,hne]
inductive W where
 | mk (s:Bool) (a b:List Nat) (c:Int) (i:Bool) (u:Int) (p:List Mo) (ps:List W)
mutual
def W.d:W->D
 | .mk s a b c i u p ps=>.a [.v (.bool s),LD a,LD b,.v (.int .i64 c),.v (.bool i),.v (.int .u64 u),PD p,.s 8 (W.ds ps)]
def W.ds:List W->List D
 | []=>[]
 | w::r=>w.d::W.ds r
end
theorem W.h_:∀ l:List W,W.ds l=l.map W.d
 | []=>rfl
 | w::r=>by simp[W.ds,W.h_ r]
mutual
def W.eq:W->W->Bool
 | .mk s a b c i u p ps,.mk s' a' b' c' i' u' p' ps'=>(s==s'&&decide (a=a')&&decide (b=b'))&&(c==c')&&(i==i')&&(u==u')&&kT Mo.eq p p'&&W.eqs ps ps'
def W.eqs:List W->List W->Bool
 | [],[]=>true
 | x::r,y::s=>x.eq y&&W.eqs r s
 | _,_=>false
end
theorem W.Gu:∀ l m:List W,W.eqs l m=kT W.eq l m
 | [],[]=>rfl
 | x::r,y::s=>by simp[W.eqs,kT,W.Gu r s]
 | [],_::_=>rfl
 | _::_,[]=>rfl
inductive W.OK:W->Prop
 | mk {s:Bool} {a b:List Nat} {c:Int} {i:Bool} {u:Int} {p:List Mo} {ps:List W} (ha:bY a) (hb:bY b) (la:a.length<=1000) (lb:b.length<=1000) (hp:Po p) (lp:ps.length<=1000) (h:∀ w ∈ ps,W.OK w):W.OK (.mk s a b c i u p ps)
def Ls:aF:=f74.body.r.r.l.r.bl.lp
def D_ (l1 l2:List W)(g k:Nat)(bs:List ah)(t:FV):St:=(st0 [.u,.d (.s 8 (l2.map W.d)),.d (.fn g),.u,.u,.u,.u,.u,.d (.s 8 (l1.map W.d)),dI l1.length,dI k,t,.u] bs)
def TH (bs:List ah):St:=(st0 (.u::.u::.u::dB false::NB) bs)
theorem PL (l1 l2:List W)(g k:Nat)(bs:List ah)(x y:W)(v:Bool)(h1:l1.length<=1000000)(hx:l1[k]?=some x)(hy:l2[k]?=some y)(hc:Ca E0 g [.d x.d,.d y.d] (dB v,none)) :
  ∃ bs',Ex E0 Ls (D_ l1 l2 g k bs .u) (if v then(.norm,D_ l1 l2 g (k+1) bs' .u) else(.ret,TH bs')):=by
 have hkl:k<l1.length:=(bq hx)
 have pE:k<l2.length:=(bq hy)
 obtain⟨N,hf⟩:=hc.get;have e1:(l1.map W.d)[k]?=some x.d:=by simp[hx]
 have e2:(l2.map W.d)[k]?=some y.d:=by simp[hy]
 have n1:(l1.map W.d).length=l1.length:=aA;have n2:(l2.map W.d).length=l2.length:=aA;have aR:ai .i64 ((k:Int)+1)=(k:Int)+1:=wrap_i64 ae;have hk1:((k+1:Nat):Int)=(k:Int)+1:=ae;have hk0:(0:Int)<=(k:Int):=ae;obtain⟨B,hB⟩:∃ B,bs.length=B:=⟨_,rfl⟩
 have hg:=fun(o:ah)=>tu (o:=o) hB
 have hs:=fun(o o':ah)=>tC (o:=o) (o':=o') hB
 have hg2:=fun(o o2:ah)=>tu (bs:=bs++[o]) (o:=o2) (k:=B+1) (by simp[hB])
 have hs2:=fun(o o2 o':ah)=>tC (bs:=bs++[o]) (o:=o2) (o':=o') (k:=B+1) (by simp[hB])
 have hg3:∀ (o o2:ah),(bs++[o]++[o2])[B]?=some o:=fun o o2=>by rw[Qp0,Qc0 ae,hB];simp
 simp only[Qp0,Xa2,Qw0]at hg2 hs2 hg3;refine⟨bs++[.box (x.d.cells.map .d)]++[.box (y.d.cells.map .d)],Ex.of (n:=N+300) ?_⟩;unfold D_ TH;rw[hk1];obtain⟨sx,ax,bx,cx,ix,ux,px,Lt⟩:=x;obtain⟨sy,ay,by2,cy,iy,uy,py,psy⟩:=y;simp only[W.d,PD]at*;generalize LL ax=x1,LL bx=x2,LL ay=x3,LL by2=x4,List.map Mo.d px=x5,List.map Mo.d py=x6,W.ds Lt=x7,W.ds psy=x8 at*;simp only[LD]at*;generalize List.map W.d l1=es1,List.map W.d l2=es2 at*;have i1:=idx e1;have i2:=idx e2;cases v
 ·simp[Ls,f74,hkl,pE,hk0,e1,e2,i1,i2,n1,n2,hB,hg,hs,hg2,hs2,hg3,hf]
 ·simp[Ls,f74,hkl,pE,hk0,e1,e2,i1,i2,n1,n2,hB,hg,hs,hg2,hs2,hg3,hf,aR]
theorem TI (eq:W->W->Bool)(l1 l2:List W)(g:Nat)(h1:l1.length<=1000000)(hl:l1.length=l2.length)(hc:∀ x ∈ l1,∀ y ∈ l2,Ca E0 g [.d x.d,.d y.d] (dB (eq x y),none)) :
  ∃ r,Ex E0 (.loop Ls) (D_ l1 l2 g 0 [] .u) r/\((kT eq l1 l2=true/\∃ bs,r=(.exit 0,D_ l1 l2 g l1.length bs (dB false)))\/(kT eq l1 l2=false/\∃ bs,r=(.ret,TH bs))):=by
 refine Ex.inv (S:=fun t:Nat × List ah=>D_ l1 l2 g t.1 t.2 .u) (fun t=>l1.length-t.1) (fun t=>t.1<=l1.length/\kT eq l1 l2=kT eq (l1.drop t.1) (l2.drop t.1)) _ ?_ (0,[]) ⟨aA,aA⟩;rintro⟨k,bs⟩ ⟨q1,q2⟩;simp only at q1 q2
 by_cases hk:k<l1.length
 ·have hx:l1[k]?=some (l1[k]'hk):=Qa1 hk;have hy:l2[k]?=some (l2[k]'(by omega)):=Qa1 ae;have d1:l1.drop k=l1[k]'hk::l1.drop (k+1):=Qk1 hk;have d2:l2.drop k=l2[k]'(by omega)::l2.drop (k+1):=Qk1 ae;obtain⟨bs',hr⟩:=PL l1 l2 g k bs _ _ _ h1 hx hy (hc _ (Qi0 hk) _ (Qi0 ae));rw[d1,d2]at q2;simp only[kT]at q2;cases hv:eq (l1[k]'hk) (l2[k]'(by omega))
  ·rw[hv]at hr q2;exact .inr ⟨_,hr,aA,.inr ⟨by simpa using q2,bs',rfl⟩⟩
  ·rw[hv]at hr q2;exact .inl ⟨(k+1,bs'),hr,by simp only;omega,by simp only;omega,by simpa using q2⟩
 ·have he:k=l1.length:=ae;subst he;rw[Qu2,hl,Qu2]at q2;refine .inr ⟨_,Ex.of (n:=60) ?_,?_,.inl ⟨by rw[q2];rfl,bs,rfl⟩⟩
  ·unfold D_;generalize List.map W.d l1=es1,List.map W.d l2=es2,l1.length=m at*;simp[Ls,f74]
  ·simp
theorem abY (eq:W->W->Bool)(l1 l2:List W)(g:Nat)(h1:l1.length<=1000000)(h2:l2.length<=1000000)(hc:∀ x ∈ l1,∀ y ∈ l2,Ca E0 g [.d x.d,.d y.d] (dB (eq x y),none)) :
  Ca E0 74 [.d (.s 8 (l1.map W.d)),.d (.s 8 (l2.map W.d)),.d (.fn g)] (dB (kT eq l1 l2),none):=by
 have n1:(l1.map W.d).length=l1.length:=aA;have n2:(l2.map W.d).length=l2.length:=aA;have hA:Ex E0 f74.body.l (st0 (.d (.s 8 (l1.map W.d))::.d (.s 8 (l2.map W.d))::.d (.fn g)::qP) []) (.norm,(st0 (.d (.s 8 (l1.map W.d))::.d (.s 8 (l2.map W.d))::.d (.fn g)::qP) [])):=by
  refine Ex.of (n:=40) ?_;generalize List.map W.d l1=es1,List.map W.d l2=es2 at*;simp[f74]
 by_cases hl:l1.length=l2.length
 ·obtain⟨r,hr,h⟩:=TI eq l1 l2 g h1 hl hc;have hB:Ex E0 f74.body.r.l (st0 (.d (.s 8 (l1.map W.d))::.d (.s 8 (l2.map W.d))::.d (.fn g)::qP) []) (.norm,(st0 (.d (.s 8 (l1.map W.d))::.d (.s 8 (l2.map W.d))::.d (.fn g)::.u::.u::.u::.u::dB false::lI) [])):=by
   refine Ex.of (n:=40) ?_;generalize List.map W.d l1=es1,List.map W.d l2=es2 at*;simp[f74,n1,n2,hl]
  have hC:Ex E0 f74.body.r.r.l.l (st0 (.d (.s 8 (l1.map W.d))::.d (.s 8 (l2.map W.d))::.d (.fn g)::.u::.u::.u::.u::dB false::lI) []) (.norm,D_ l1 l2 g 0 [] .u):=by
   refine Ex.of (n:=40) ?_;unfold D_;generalize List.map W.d l1=es1,List.map W.d l2=es2 at*;simp[f74,n1]
  rcases h with ⟨hv,bs,rfl⟩|⟨hv,bs,rfl⟩
  ·rw[hv];refine Ca.body (o:=.ret) (st1:=(st0 (.u::.u::.u::dB true::NB) bs)) rfl (k74:E0.fn _=_) rfl ?_ (by intro id h;cases h) ?_
   ·show Ex E0 (.seq f74.body.l (.seq f74.body.r.l (.seq (.seq f74.body.r.r.l.l (.block 0 (.loop Ls))) f74.body.r.r.r))) _ _;refine hA.seq (hB.seq ((hC.seq hr.block).seq (Ex.of (n:=40) ?_)));unfold D_;generalize List.map W.d l1=es1,List.map W.d l2=es2 at*;simp[f74]
   ·simp[f74]
  ·rw[hv];refine Ca.body (o:=.ret) (st1:=TH bs) rfl (k74:E0.fn _=_) rfl ?_ (by intro id h;cases h) ?_
   ·show Ex E0 (.seq f74.body.l (.seq f74.body.r.l (.seq (.seq f74.body.r.r.l.l (.block 0 (.loop Ls))) f74.body.r.r.r))) _ _;exact hA.seq (hB.seq (hC.seq hr.dA).dX)
   ·simp[f74,TH]
 ·have hf:kT eq l1 l2=false:=by
   cases h:kT eq l1 l2
   ·rfl
   ·exact absurd (mO h) hl
  have hne:((l1.length:Int) != (l2.length:Int))=true:=by simp;omega
  rw[hf];refine Ca.bP (n:=60) ?_;rw[av rfl (k74:E0.fn _=_) rfl];generalize List.map W.d l1=es1,List.map W.d l2=es2 at*;simp[f74,n1,n2,hne]
theorem Yy (l1 l2:List Mo)(h1:Po l1)(h2:Po l2):Ca E0 73 [.d (PD l1),.d (PD l2),.d (.fn 71)] (dB (kT Mo.eq l1 l2),none) :=
 abX Mo.eq l1 l2 71 h1.2 h2.2 (fun x hx y hy=>Yx x y (h1.1 x hx) (h2.1 y hy))
theorem PM (v w:W)(hv:v.OK)(hw:w.OK)(hp:match v,w with|.mk _ _ _ _ _ _ _ ps,.mk _ _ _ _ _ _ _ ps'=>∀ x ∈ ps,∀ y ∈ ps',Ca E0 34 [.d x.d,.d y.d] (.d (.v (.bool (x.eq y))),none)) :
  Ca E0 34 [.d v.d,.d w.d] (dB (v.eq w),none):=by
 cases hv with
 | @mk s a b c i u p ps ha hb la lb hpo lp h =>
  cases hw with
  | @mk s' a' b' c' i' u' p' ps' ha' hb' la' lb' TJ lp' h' =>
   simp only at hp;obtain⟨Kq,_,t1,t2,t3⟩:=((Bz s s' a b a' b' ae ae ae ae).j ((Yy p p' hpo TJ).j ((abY W.eq ps ps' 34 ae ae hp).any))).at 0;generalize Kq=N at*;refine Ca.bP (n:=N+90) ?_;rw[av rfl (aM 34 f34:E0.fn _=_) rfl];simp only[W.d,W.eq,W.h_,W.Gu];generalize (s==s'&&decide (a=a')&&decide (b=b'))=r1,kT Mo.eq p p'=r2,kT W.eq ps ps'=r3 at*;simp only[raw,LD]at*;generalize LL a=x1,LL b=x2 at*;generalize LL a'=x3,LL b'=x4 at*;simp only[PD]at*;generalize List.map Mo.d p=y1 at*;generalize List.map Mo.d p'=y2,List.map W.d ps=y3 at*;generalize List.map W.d ps'=y4 at*;cases r1
   ·simp[f34,t1]
   ·cases h1:(c==c')
    ·simp[f34,t1,h1]
    ·cases h2:(i==i')
     ·simp[f34,t1,h1,h2]
     ·cases h3:(u==u')
      ·simp[f34,t1,h1,h2,h3]
      ·cases r2
       ·simp[f34,t1,h1,h2,h3,t2]
       ·simp[f34,t1,h1,h2,h3,t2,t3]
theorem oz (v:W)(hv:v.OK):∀ w:W,w.OK->Ca E0 34 [.d v.d,.d w.d] (dB (v.eq w),none):=by
 induction hv with
 | @mk s a b c i u p ps ha hb la lb hpo lp h ih =>
  intro w hw;refine PM _ w (.mk ha hb la lb hpo lp h) hw ?_;cases hw with
  | @mk s' a' b' c' i' u' p' ps' ha' hb' la' lb' TJ lp' h' =>
   simp only;exact fun x hx y hy=>ih x hx y (h' y hy)
def psB:aF:=f40.body.r.r.l.r.bl.lp
def Xw (l1 l2:List Mo)(k:Nat)(t:FV):St:=(st0 [.d (PD l1),.d (PD l2),.u,dI k,.u,t,.u] [])
def psF:St:=(st0 (.u::.u::dB false::vR) [])
theorem TK (l1 l2:List Mo)(k:Nat)(m n:Mo)(h1:Po l1)(h2:Po l2)(hx:l1[k]?=some m)(hy:l2[k]?=some n) :
  Ex E0 psB (Xw l1 l2 k .u) (if m.eq n then(.norm,Xw l1 l2 (k+1) .u) else(.ret,psF)):=by
 have hkl:k<l1.length:=(bq hx)
 have pE:k<l2.length:=(bq hy)
 have hll:=h1.2;obtain⟨_,_,la,lb⟩:=h1.1 m (Qa2 hx);obtain⟨_,_,la',lb'⟩:=h2.1 n (Qa2 hy);obtain⟨N,t⟩:=(mM m.s n.s m.a m.b n.a n.b ae ae ae ae).get;have e1:(l1.map Mo.d)[k]?=some m.d:=by simp[hx]
 have e2:(l2.map Mo.d)[k]?=some n.d:=by simp[hy]
 have n1:(l1.map Mo.d).length=l1.length:=aA;have n2:(l2.map Mo.d).length=l2.length:=aA;have aR:ai .i64 ((k:Int)+1)=(k:Int)+1:=wrap_i64 ae;have hk1:((k+1:Nat):Int)=(k:Int)+1:=ae;have hk0:(0:Int)<=(k:Int):=ae;have he:decide (m.e=n.e)=(m.e.1==n.e.1&&(m.e.2.1==n.e.2.1&&m.e.2.2==n.e.2.2)):=by
  obtain⟨⟨x,y,z⟩,_,_,_⟩:=m;obtain⟨⟨x',y',z'⟩,_,_,_⟩:=n;simp only[Qm2,Bool.decide_and];rfl
 refine Ex.of (n:=N+300) ?_;unfold Xw psF Mo.eq;rw[hk1,he];generalize (m.s==n.s&&decide (m.a=n.a)&&decide (m.b=n.b))=r at*;obtain⟨⟨x,y,z⟩,s,a,b⟩:=m;obtain⟨⟨x',y',z'⟩,s',a',b'⟩:=n;simp only[Mo.d,raw,PD]at*;generalize LL a=x1,LL b=x2 at*;generalize LL a'=x3,LL b'=x4 at*;simp only[LD]at*;generalize List.map Mo.d l1=es1,List.map Mo.d l2=es2 at*;have i1:=idx e1;have i2:=idx e2
 by_cases q1:(x==x'&&(y==y'&&z==z'))=true
 ·have q1':=q1;simp only[Qb1]at q1';rw[q1];cases r
  ·simp[psB,f40,dG,hkl,pE,hk0,e1,e2,i1,i2,n1,n2,q1'.1,q1'.2.1,q1'.2.2,t]
  ·simp[psB,f40,dG,hkl,pE,hk0,e1,e2,i1,i2,n1,n2,q1'.1,q1'.2.1,q1'.2.2,t,aR]
 ·simp only[Xz0]at q1;rw[q1];cases g1:(x==x')<;>cases g2:(y==y')<;>cases g3:(z==z')<;>first
   | (rw[g1,g2,g3]at q1;cases q1;done)
   | simp[psB,f40,dG,hkl,pE,hk0,e1,e2,i1,i2,n1,n2,g1,g2,g3]
theorem Yz (l1 l2:List Mo)(h1:Po l1)(h2:Po l2)(hl:l1.length=l2.length) :
  ∃ r,Ex E0 (.loop psB) (Xw l1 l2 0 .u) r/\((kT Mo.eq l1 l2=true/\r=(.exit 0,Xw l1 l2 l1.length (dB false)))\/(kT Mo.eq l1 l2=false/\r=(.ret,psF))):=by
 refine Ex.inv (S:=fun k:Nat=>Xw l1 l2 k .u) (fun k=>l1.length-k) (fun k=>k<=l1.length/\kT Mo.eq l1 l2=kT Mo.eq (l1.drop k) (l2.drop k)) _ ?_ 0 ⟨aA,aA⟩;rintro k ⟨q1,q2⟩
 by_cases hk:k<l1.length
 ·have hx:l1[k]?=some (l1[k]'hk):=Qa1 hk;have hy:l2[k]?=some (l2[k]'(by omega)):=Qa1 ae;have d1:l1.drop k=l1[k]'hk::l1.drop (k+1):=Qk1 hk;have d2:l2.drop k=l2[k]'(by omega)::l2.drop (k+1):=Qk1 ae;have hr:=TK l1 l2 k _ _ h1 h2 hx hy;rw[d1,d2]at q2;simp only[kT]at q2;cases hv:Mo.eq (l1[k]'hk) (l2[k]'(by omega))
  ·rw[hv]at hr q2;exact .inr ⟨_,hr,aA,.inr ⟨by simpa using q2,rfl⟩⟩
  ·rw[hv]at hr q2;exact .inl ⟨k+1,hr,ae,ae,by simpa using q2⟩
 ·have he:k=l1.length:=ae;subst he;have n1:(l1.map Mo.d).length=l1.length:=aA;rw[Qu2,hl,Qu2]at q2;refine .inr ⟨_,Ex.of (n:=60) ?_,?_,.inl ⟨by rw[q2];rfl,rfl⟩⟩
  ·unfold Xw;simp only[PD];generalize List.map Mo.d l1=es1,List.map Mo.d l2=es2,l1.length=m at*;simp[psB,f40,n1]
  ·simp
theorem TL (l1 l2:List Mo)(h1:Po l1)(h2:Po l2):Ca E0 40 [.d (PD l1),.d (PD l2)] (dB (kT Mo.eq l1 l2),none):=by
 have n1:(l1.map Mo.d).length=l1.length:=aA;have n2:(l2.map Mo.d).length=l2.length:=aA
 by_cases hl:l1.length=l2.length
 ·obtain⟨r,hr,h⟩:=Yz l1 l2 h1 h2 hl;have hA:Ex E0 f40.body.l (st0 (.d (PD l1)::.d (PD l2)::lI) []) (.norm,(st0 (.d (PD l1)::.d (PD l2)::lI) [])):=by
   refine Ex.of (n:=40) ?_;generalize PD l1=p1,PD l2=p2 at*;simp[f40]
  have hB:Ex E0 f40.body.r.l (st0 (.d (PD l1)::.d (PD l2)::lI) []) (.norm,(st0 [.d (PD l1),.d (PD l2),.u,.u,dB false,.u,.u] [])):=by
   refine Ex.of (n:=40) ?_;simp only[PD];generalize List.map Mo.d l1=es1,List.map Mo.d l2=es2 at*;simp[f40,n1,n2,hl]
  have hC:Ex E0 f40.body.r.r.l.l (st0 [.d (PD l1),.d (PD l2),.u,.u,dB false,.u,.u] []) (.norm,Xw l1 l2 0 .u):=by
   refine Ex.of (n:=40) ?_;unfold Xw;generalize PD l1=p1,PD l2=p2 at*;simp[f40]
  rcases h with ⟨hv,rfl⟩|⟨hv,rfl⟩
  ·rw[hv];refine Ca.body (o:=.ret) (st1:=(st0 (.u::.u::dB true::vR) [])) rfl (k40:E0.fn _=_) rfl ?_ (by intro id h;cases h) ?_
   ·show Ex E0 (.seq f40.body.l (.seq f40.body.r.l (.seq (.seq f40.body.r.r.l.l (.block 0 (.loop psB))) f40.body.r.r.r))) _ _;refine hA.seq (hB.seq ((hC.seq hr.block).seq (Ex.of (n:=40) ?_)));unfold Xw;generalize PD l1=p1,PD l2=p2 at*;simp[f40]
   ·simp[f40]
  ·rw[hv];refine Ca.body (o:=.ret) (st1:=psF) rfl (k40:E0.fn _=_) rfl ?_ (by intro id h;cases h) ?_
   ·show Ex E0 (.seq f40.body.l (.seq f40.body.r.l (.seq (.seq f40.body.r.r.l.l (.block 0 (.loop psB))) f40.body.r.r.r))) _ _;exact hA.seq (hB.seq (hC.seq hr.dA).dX)
   ·simp[f40,psF]
 ·have hf:kT Mo.eq l1 l2=false:=by
   cases h:kT Mo.eq l1 l2
   ·rfl
   ·exact absurd (mO h) hl
  have hne:((l1.length:Int) != (l2.length:Int))=true:=by simp;omega
  rw[hf];refine Ca.bP (n:=60) ?_;rw[av rfl (k40:E0.fn _=_) rfl];simp only[PD];generalize List.map Mo.d l1=es1,List.map Mo.d l2=es2 at*;simp[f40,n1,n2,hne]
def weB:aF:=f12.body.r.r.l.r.bl.lp
def Xx (c1 c2:List FV)(k:Nat)(t:FV):St:=(st0 [.u,.u,rL 0,rL 1,.u,dI k,.u,t,.u] [.box c1,.box c2])
def weF (c1 c2:List FV):St:=(st0 (.u::.u::.u::.u::dB false::vR) [.box c1,.box c2])
theorem TM (p1 p2 p3 p4 p5 p6 p7 q1 q2 q3 q4 q5 q6 q7:D)(l1 l2:List W)(k:Nat)(x y:W)(v:Bool)(h1:l1.length<=1000000)(hx:l1[k]?=some x)(hy:l2[k]?=some y)(hc:Ca E0 12 [.d x.d,.d y.d] (dB v,none)) :
  Ex E0 weB (Xx [.d p1,.d p2,.d p3,.d p4,.d p5,.d p6,.d p7,.d (.s 8 (l1.map W.d))] [.d q1,.d q2,.d q3,.d q4,.d q5,.d q6,.d q7,.d (.s 8 (l2.map W.d))] k .u)
   (if v then(.norm,Xx [.d p1,.d p2,.d p3,.d p4,.d p5,.d p6,.d p7,.d (.s 8 (l1.map W.d))] [.d q1,.d q2,.d q3,.d q4,.d q5,.d q6,.d q7,.d (.s 8 (l2.map W.d))] (k+1) .u)
    else(.ret,weF [.d p1,.d p2,.d p3,.d p4,.d p5,.d p6,.d p7,.d (.s 8 (l1.map W.d))] [.d q1,.d q2,.d q3,.d q4,.d q5,.d q6,.d q7,.d (.s 8 (l2.map W.d))])):=by
 have hkl:k<l1.length:=(bq hx)
 have pE:k<l2.length:=(bq hy)
 obtain⟨N,hf⟩:=hc.get;have e1:(l1.map W.d)[k]?=some x.d:=by simp[hx]
 have e2:(l2.map W.d)[k]?=some y.d:=by simp[hy]
 have n1:(l1.map W.d).length=l1.length:=aA;have n2:(l2.map W.d).length=l2.length:=aA;have aR:ai .i64 ((k:Int)+1)=(k:Int)+1:=wrap_i64 ae;have hk1:((k+1:Nat):Int)=(k:Int)+1:=ae;have hk0:(0:Int)<=(k:Int):=ae;refine Ex.of (n:=N+300) ?_;unfold Xx weF;rw[hk1];obtain⟨sx,ax,bx,cx,ix,ux,px,Lt⟩:=x;obtain⟨sy,ay,by2,cy,iy,uy,py,psy⟩:=y;simp only[W.d,PD]at*;generalize LL ax=x1,LL bx=x2,LL ay=x3,LL by2=x4,List.map Mo.d px=x5,List.map Mo.d py=x6,W.ds Lt=x7,W.ds psy=x8 at*;simp only[LD]at*;generalize List.map W.d l1=es1,List.map W.d l2=es2 at*;have i1:=idx e1;have i2:=idx e2;cases v
 ·simp[weB,f12,hkl,pE,hk0,e1,e2,i1,i2,n1,n2,hf]
 ·simp[weB,f12,hkl,pE,hk0,e1,e2,i1,i2,n1,n2,hf,aR]
theorem YA (p1 p2 p3 p4 p5 p6 p7 q1 q2 q3 q4 q5 q6 q7:D)(l1 l2:List W)(h1:l1.length<=1000000)(hl:l1.length=l2.length)(hc:∀ x ∈ l1,∀ y ∈ l2,Ca E0 12 [.d x.d,.d y.d] (dB (x.eq y),none)) :
  ∃ r,Ex E0 (.loop weB) (Xx [.d p1,.d p2,.d p3,.d p4,.d p5,.d p6,.d p7,.d (.s 8 (l1.map W.d))] [.d q1,.d q2,.d q3,.d q4,.d q5,.d q6,.d q7,.d (.s 8 (l2.map W.d))] 0 .u) r /\
   ((kT W.eq l1 l2=true/\r=(.exit 0,Xx [.d p1,.d p2,.d p3,.d p4,.d p5,.d p6,.d p7,.d (.s 8 (l1.map W.d))] [.d q1,.d q2,.d q3,.d q4,.d q5,.d q6,.d q7,.d (.s 8 (l2.map W.d))] l1.length (dB false))) \/
    (kT W.eq l1 l2=false/\r=(.ret,weF [.d p1,.d p2,.d p3,.d p4,.d p5,.d p6,.d p7,.d (.s 8 (l1.map W.d))] [.d q1,.d q2,.d q3,.d q4,.d q5,.d q6,.d q7,.d (.s 8 (l2.map W.d))]))):=by
 refine Ex.inv (S:=fun k:Nat=>Xx [.d p1,.d p2,.d p3,.d p4,.d p5,.d p6,.d p7,.d (.s 8 (l1.map W.d))] [.d q1,.d q2,.d q3,.d q4,.d q5,.d q6,.d q7,.d (.s 8 (l2.map W.d))] k .u) (fun k=>l1.length-k) (fun k=>k<=l1.length/\kT W.eq l1 l2=kT W.eq (l1.drop k) (l2.drop k)) _ ?_ 0 ⟨aA,aA⟩;rintro k ⟨g1,g2⟩
 by_cases hk:k<l1.length
 ·have hx:l1[k]?=some (l1[k]'hk):=Qa1 hk;have hy:l2[k]?=some (l2[k]'(by omega)):=Qa1 ae;have d1:l1.drop k=l1[k]'hk::l1.drop (k+1):=Qk1 hk;have d2:l2.drop k=l2[k]'(by omega)::l2.drop (k+1):=Qk1 ae;have hr:=TM p1 p2 p3 p4 p5 p6 p7 q1 q2 q3 q4 q5 q6 q7 l1 l2 k _ _ _ h1 hx hy (hc _ (Qi0 hk) _ (Qi0 ae));rw[d1,d2]at g2;simp only[kT]at g2;cases hv:W.eq (l1[k]'hk) (l2[k]'(by omega))
  ·rw[hv]at hr g2;exact .inr ⟨_,hr,aA,.inr ⟨by simpa using g2,rfl⟩⟩
  ·rw[hv]at hr g2;exact .inl ⟨k+1,hr,ae,ae,by simpa using g2⟩
 ·have he:k=l1.length:=ae;subst he;have n1:(l1.map W.d).length=l1.length:=aA;rw[Qu2,hl,Qu2]at g2;refine .inr ⟨_,Ex.of (n:=60) ?_,?_,.inl ⟨by rw[g2];rfl,rfl⟩⟩
  ·unfold Xx;generalize List.map W.d l1=es1,List.map W.d l2=es2,l1.length=m at*;simp[weB,f12,n1]
  ·simp
set_option maxRecDepth 4000
theorem Lu (v w:W)(hv:v.OK)(hw:w.OK)(hp:match v,w with|.mk _ _ _ _ _ _ _ ps,.mk _ _ _ _ _ _ _ ps'=>∀ x ∈ ps,∀ y ∈ ps',Ca E0 12 [.d x.d,.d y.d] (.d (.v (.bool (x.eq y))),none)) :
  Ca E0 12 [.d v.d,.d w.d] (dB (v.eq w),none):=by
 cases hv with
 | @mk s a b c i u p ps ha hb la lb hpo lp h =>
  cases hw with
  | @mk s' a' b' c' i' u' p' ps' ha' hb' la' lb' TJ lp' h' =>
   simp only at hp;obtain⟨Kq,_,t1,t2⟩:=((mM s s' a b a' b' ae ae ae ae).j ((TL p p' hpo TJ).any)).at 0;generalize Kq=N at*;have m1:(ps.map W.d).length=ps.length:=aA;have m2:(ps'.map W.d).length=ps'.length:=aA;simp only[W.d,W.eq,W.h_,W.Gu]
   by_cases hall:((s==s'&&decide (a=a')&&decide (b=b'))&&(c==c')&&(i==i')&&(u==u')&&kT Mo.eq p p'&&(ps.length==ps'.length))=true
   ·simp only[Qb1]at hall;obtain⟨⟨⟨⟨⟨r1,h1⟩,h2⟩,h3⟩,r2⟩,h4⟩:=hall;have hlen:ps.length=ps'.length:=by simpa using h4
    have r1':(s==s'&&decide (a=a')&&decide (b=b'))=true:=by simpa using r1
    rw[r1']at t1;rw[r2]at t2;rw[r1',h1,h2,h3,r2];simp only[Qr2];obtain⟨r,hr,hq⟩:=YA (vB s) (LD a) (LD b) (vI c) (vB i) (.v (.int .u64 u)) (PD p) (vB s') (LD a') (LD b') (vI c') (vB i') (.v (.int .u64 u')) (PD p') ps ps' ae hlen hp;generalize kT W.eq ps ps'=res at*;simp only[raw,LD,PD]at*;generalize LL a=x1,LL b=x2 at*;generalize LL a'=x3,LL b'=x4,List.map Mo.d p=y1 at*;generalize List.map Mo.d p'=y2 at*;generalize hy3:List.map W.d ps=y3 at*;generalize hy4:List.map W.d ps'=y4 at*;have g1:(c != c')=false:=by simpa using h1
    have g2:(u != u')=false:=by simpa using h3
    have m3:y4.length=ps.length:=ae;have hA:Ex E0 f12.body.l (st0 (.d (.a [vB s,.s 1 x1,.s 1 x2,vI c,vB i,.v (.int .u64 u),.s 6 y1,.s 8 y3])::.d (.a [vB s',.s 1 x3,.s 1 x4,vI c',vB i',.v (.int .u64 u'),.s 6 y2,.s 8 y4])::sO) [])
      (.norm,(st0 (.u::.u::rL 0::rL 1::lI) [.box [dB s,.d (.s 1 x1),.d (.s 1 x2),dI c,dB i,.d (.v (.int .u64 u)),.d (.s 6 y1),.d (.s 8 y3)],.box [dB s',.d (.s 1 x3),.d (.s 1 x4),dI c',dB i',.d (.v (.int .u64 u')),.d (.s 6 y2),.d (.s 8 y4)]])):=by
     refine Ex.of (n:=40) ?_;simp[f12]
    have hB:Ex E0 f12.body.r.l (st0 (.u::.u::rL 0::rL 1::lI) [.box [dB s,.d (.s 1 x1),.d (.s 1 x2),dI c,dB i,.d (.v (.int .u64 u)),.d (.s 6 y1),.d (.s 8 y3)],.box [dB s',.d (.s 1 x3),.d (.s 1 x4),dI c',dB i',.d (.v (.int .u64 u')),.d (.s 6 y2),.d (.s 8 y4)]])
      (.norm,(st0 [.u,.u,rL 0,rL 1,.u,.u,dB false,.u,.u] [.box [dB s,.d (.s 1 x1),.d (.s 1 x2),dI c,dB i,.d (.v (.int .u64 u)),.d (.s 6 y1),.d (.s 8 y3)],.box [dB s',.d (.s 1 x3),.d (.s 1 x4),dI c',dB i',.d (.v (.int .u64 u')),.d (.s 6 y2),.d (.s 8 y4)]])):=by
     refine Ex.of (n:=N+90) ?_;simp[f12,t1,t2,g1,g2,h2,m1,m3]
    have hC:Ex E0 f12.body.r.r.l.l (st0 [.u,.u,rL 0,rL 1,.u,.u,dB false,.u,.u] [.box [dB s,.d (.s 1 x1),.d (.s 1 x2),dI c,dB i,.d (.v (.int .u64 u)),.d (.s 6 y1),.d (.s 8 y3)],.box [dB s',.d (.s 1 x3),.d (.s 1 x4),dI c',dB i',.d (.v (.int .u64 u')),.d (.s 6 y2),.d (.s 8 y4)]])
      (.norm,Xx [dB s,.d (.s 1 x1),.d (.s 1 x2),dI c,dB i,.d (.v (.int .u64 u)),.d (.s 6 y1),.d (.s 8 y3)] [dB s',.d (.s 1 x3),.d (.s 1 x4),dI c',dB i',.d (.v (.int .u64 u')),.d (.s 6 y2),.d (.s 8 y4)] 0 .u):=by
     refine Ex.of (n:=40) ?_;unfold Xx;simp[f12]
    rcases hq with ⟨rfl,rfl⟩|⟨rfl,rfl⟩
    ·refine Ca.body (o:=.ret) (st1:=(st0 (.u::.u::.u::.u::dB true::vR) [.box [dB s,.d (.s 1 x1),.d (.s 1 x2),dI c,dB i,.d (.v (.int .u64 u)),.d (.s 6 y1),.d (.s 8 y3)],.box [dB s',.d (.s 1 x3),.d (.s 1 x4),dI c',dB i',.d (.v (.int .u64 u')),.d (.s 6 y2),.d (.s 8 y4)]])) rfl (k12:E0.fn _=_) rfl ?_ (by intro id h;cases h) ?_
     ·show Ex E0 (.seq f12.body.l (.seq f12.body.r.l (.seq (.seq f12.body.r.r.l.l (.block 0 (.loop weB))) f12.body.r.r.r))) _ _;refine hA.seq (hB.seq ((hC.seq hr.block).seq (Ex.of (n:=40) ?_)));unfold Xx;simp[f12]
     ·simp[f12]
    ·refine Ca.body (o:=.ret) (st1:=weF [dB s,.d (.s 1 x1),.d (.s 1 x2),dI c,dB i,.d (.v (.int .u64 u)),.d (.s 6 y1),.d (.s 8 y3)] [dB s',.d (.s 1 x3),.d (.s 1 x4),dI c',dB i',.d (.v (.int .u64 u')),.d (.s 6 y2),.d (.s 8 y4)]) rfl (k12:E0.fn _=_) rfl ?_ (by intro id h;cases h) ?_
     ·show Ex E0 (.seq f12.body.l (.seq f12.body.r.l (.seq (.seq f12.body.r.r.l.l (.block 0 (.loop weB))) f12.body.r.r.r))) _ _;exact hA.seq (hB.seq (hC.seq hr.dA).dX)
     ·simp[f12,weF]
   ·have hres:((s==s'&&decide (a=a')&&decide (b=b'))&&(c==c')&&(i==i')&&(u==u')&&kT Mo.eq p p'&&kT W.eq ps ps')=false:=by
     rw[<-Xz0];intro hh;apply hall;simp only[Qb1]at hh ⊢;exact⟨hh.1,by simpa using mO hh.2⟩
    rw[hres];have e1:(c != c') = !(c==c'):=rfl;have e3:(u != u') = !(u==u'):=rfl;have e4:((ps.length:Int) != (ps'.length:Int)) = !(ps.length==ps'.length):=by
     have hcast:∀ x y:Nat,((x:Int) != (y:Int)) = !(x==y):=by
      intro x y
      by_cases hh:x=y
      ·rw[hh];simp
      ·have h1:((x:Int) != (y:Int))=true:=bne_iff_ne.2 ae;have h2:(x==y)=false:=beq_eq_false_iff_ne.2 hh;rw[h1,h2];rfl
     exact hcast _ _
    clear hp hres;refine Ca.bP (n:=N+90) ?_;rw[av rfl (k12:E0.fn _=_) rfl];generalize (s==s'&&decide (a=a')&&decide (b=b'))=r1,kT Mo.eq p p'=r2,(ps.length==ps'.length)=b4 at*;simp only[raw,LD,PD]at*;generalize LL a=x1,LL b=x2 at*;generalize LL a'=x3,LL b'=x4,List.map Mo.d p=y1 at*;generalize List.map Mo.d p'=y2,List.map W.d ps=y3 at*;generalize List.map W.d ps'=y4 at*;cases r1
    ·simp[f12,t1]
    ·cases h1:(c==c')
     ·rw[h1]at e1;simp[f12,t1,e1]
     ·rw[h1]at e1;cases h2:(i==i')
      ·simp[f12,t1,e1,h2]
      ·cases h3:(u==u')
       ·rw[h3]at e3;simp[f12,t1,e1,h2,e3]
       ·rw[h3]at e3;cases r2
        ·simp[f12,t1,e1,h2,e3,t2]
        ·cases b4
         ·simp[f12,t1,e1,h2,e3,t2,m1,m2,e4]
         ·exact absurd (by rw[h1,h2,h3];rfl) hall
theorem ym (v:W)(hv:v.OK):∀ w:W,w.OK->Ca E0 12 [.d v.d,.d w.d] (dB (v.eq w),none):=by
 induction hv with
 | @mk s a b c i u p ps ha hb la lb hpo lp h ih =>
  intro w hw;refine Lu _ w (.mk ha hb la lb hpo lp h) hw ?_;cases hw with
  | @mk s' a' b' c' i' u' p' ps' ha' hb' la' lb' TJ lp' h' =>
   simp only;exact fun x hx y hy=>ih x hx y (h' y hy)
end Fi.S
