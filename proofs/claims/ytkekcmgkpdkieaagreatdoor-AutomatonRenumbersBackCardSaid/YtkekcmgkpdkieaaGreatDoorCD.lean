import Derived.Test.YtkekcmgkpdkieaaGreatDoorCC
set_option linter.unusedVariables false
set_option linter.unusedSimpArgs false
noncomputable section
namespace Fi.S
open Go Fi
set_option maxHeartbeats 8000000
def lM (e:Int × Int × Int):D:=.a [.v (.int .i64 e.1),.v (.int .i64 e.2.1),.v (.int .i64 e.2.2)]
def d_ (x:Int):Prop:=-9223372036854775808<=x/\x<9223372036854775808
noncomputable def Gt (e:Int × Int × Int):Int:=ah .i64 (ah .i64 (ah .i64 (0+e.1)+e.2.1)+e.2.2)
theorem BK (n:Nat)(e:Int × Int × Int):CL E0 (n+100) 254 [.d (lM e)] []=some (.d (.v (.int .i64 (Gt e))),none):=by
 rw[av rfl (k254:E0.fn _=_) rfl];obtain⟨a,b,c⟩:=e;simp only[lM,Gt];have w1:ah .i64 1=1:=wrap_i64 omK;have w2:ah .i64 2=2:=wrap_i64 omK;have w3:ah .i64 3=3:=wrap_i64 omK;simp -implicitDefEqProofs[f254,aC,w1,w2,w3]
def iB (x y:Int):Int:=if x<y then -1 else if y<x then 1 else 0
theorem nW (n:Nat)(x y:Int):CL E0 (n+60) 255 [.d (.v (.int .i64 x)),.d (.v (.int .i64 y))] []=some (.d (.v (.int .i64 (iB x y))),none):=by
 have LJ:∀ m z,CL E0 (m+20) 282 [.d (.v (.int .i64 z))] []=some (.d (.v (.bool false)),none):=by
  intro m z;rw[av rfl (k282:E0.fn _=_) rfl];simp -implicitDefEqProofs[f282]
 rw[av rfl (k255:E0.fn _=_) rfl];unfold iB
 by_cases h1:x<y
 ·simp -implicitDefEqProofs[f255,LJ,h1]
 ·by_cases h2:y<x
  ·simp -implicitDefEqProofs[f255,LJ,h1,h2]
  ·simp -implicitDefEqProofs[f255,LJ,h1,h2]
def jb (d e:Int × Int × Int):Int :=
 if iB e.1 d.1≠0 then iB e.1 d.1 else if iB e.2.1 d.2.1≠0 then iB e.2.1 d.2.1 else iB e.2.2 d.2.2
theorem LM (n:Nat)(d e:Int × Int × Int):CL E0 (n+200) 204 [.d (lM d),.d (lM e)] []=some (.d (.v (.int .i64 (jb d e))),none):=by
 obtain⟨a,b,c⟩:=d;obtain⟨a',b',c'⟩:=e;have c1:=fun m=>nW m a' a
 have c2:=fun m=>nW m b' b
 have c3:=fun m=>nW m c' c
 rw[av rfl (k204:E0.fn _=_) rfl];simp only[lM,jb];have w1:ah .i64 1=1:=wrap_i64 omK;have w2:ah .i64 2=2:=wrap_i64 omK;have w3:ah .i64 3=3:=wrap_i64 omK;generalize iB a' a=x,iB b' b=y,iB c' c=z at*
 by_cases h1:x=0
 ·subst h1
  by_cases h2:y=0
  ·subst h2
   by_cases h3:z=0
   ·subst h3;simp -implicitDefEqProofs[f204,aC,w1,w2,w3,c1,c2,c3]
   ·have e3:(z != 0)=true:=by simpa using h3
    simp -implicitDefEqProofs[f204,aC,w1,w2,c1,c2,c3,e3]
  ·have e2:(y != 0)=true:=by simpa using h2
   simp -implicitDefEqProofs[f204,aC,w1,c1,c2,e2,h2]
 ·have e1:(x != 0)=true:=by simpa using h1
  simp -implicitDefEqProofs[f204,aC,c1,e1,h1]
structure Mo where
 e:Int × Int × Int
 s:Bool
 a:List Nat
 b:List Nat
def Mo.d (m:Mo):D:=.a [.v (.int .i64 m.e.1),.v (.int .i64 m.e.2.1),.v (.int .i64 m.e.2.2),.v (.bool m.s),LD m.a,LD m.b]
def Mo.ok (m:Mo):Prop:=bV m.a/\bV m.b/\m.a.length<=1000/\m.b.length<=1000
def kU (x:Int):Bool := !(decide (x<0)||decide (5<x))
def bR (e:Int × Int × Int):Bool:=kU e.1&&kU e.2.1&&kU e.2.2&&decide (e.1+e.2.1+e.2.2<=5)
def Mo.fits (m:Mo):Bool:=bR m.e&&(dP m.s m.a m.b&&decide (m.a≠[]))
theorem ve {e:Int × Int × Int}(h1:kU e.1=true)(h2:kU e.2.1=true)(h3:kU e.2.2=true):Gt e=e.1+e.2.1+e.2.2:=by
 simp only[kU,Qs2,Bool.or_eq_false_iff,decide_eq_false_iff_not]at h1 h2 h3;unfold Gt;rw[wrap_i64 (z:=0+e.1) omK,wrap_i64 (z:=0+e.1+e.2.1) omK,wrap_i64 omK];omega
theorem Yo (m:Mo)(hm:m.ok):Ca E0 203 [.d m.d] (.d (.v (.bool m.fits)),none):=by
 obtain⟨e,s,a,b⟩:=m;obtain⟨ha,hb,la,lb⟩:=hm;simp only at ha hb la lb;obtain⟨k1,t1⟩:=(yA s a b omK omK ha hb).any;have w1:ah .i64 1=1:=wrap_i64 omK;have w2:ah .i64 2=2:=wrap_i64 omK;have w3:ah .i64 3=3:=wrap_i64 omK;have hdg:=fun n=>BK n e
 obtain⟨x,y,z⟩:=e;simp only[Mo.d,Mo.fits,bR,lM]at*;have ex:∀ u:Int,(kU u=true/\¬ u<0/\¬ 5<u)\/(kU u=false/\u<0)\/(kU u=false/\¬ u<0/\5<u):=by
  intro u;unfold kU
  by_cases h1:u<0
  ·simp[h1]
  ·by_cases h2:5<u
   ·simp[h1,h2]
   ·simp[h1,h2]
 rcases ex x with ⟨q1,a1,a2⟩|⟨q1,a1⟩|⟨q1,a1,a2⟩
 ·rcases ex y with ⟨q2,b1,b2⟩|⟨q2,b1⟩|⟨q2,b1,b2⟩
  ·rcases ex z with ⟨q3,c1,c2⟩|⟨q3,c1⟩|⟨q3,c1,c2⟩
   ·rw[ve q1 q2 q3]at hdg;rw[q1,q2,q3];simp only[Qs0]
    by_cases hd:x+y+z<=5
    ·rw[decide_eq_true hd];cases hv:dP s a b
     ·rw[hv]at t1;replace t1:=t1 k1 omK;refine Ca.bO (n:=k1+200) ?_;rw[av rfl (k203:E0.fn _=_) rfl];simp only[raw,LD]at*;generalize LL a=as',LL b=bs',x+y+z=deg at*;simp -implicitDefEqProofs[f203,aC,w1,w2,w3,a1,a2,b1,b2,c1,c2,hdg,hd,t1]
     ·rw[hv]at t1;have hq:=tY ha hb hv;have hz:=wJ ha hb 1000 la lb omK hv;obtain⟨k2,t2⟩:=(wF (bZ s a b) omK).any;rw[<-hq]at t2;have hsg:((bZ s a b).num.sign != 0)=decide (a≠[]):=by
       have e1:qn (bZ s a b)=a:=by
        have:=hq;simp only[raw,qD,D.a.injEq,Xs1,LD,D.s.injEq,true_and]at this;have h3:=this.2.1;have h4:LL a=LL (qn (bZ s a b)):=h3;rw[I7,I7]at h4;have h5:(a.map fun(x:Nat)=>(x:Int))=((qn (bZ s a b)).map fun(x:Nat)=>(x:Int)):=by
         unfold LK at h4;exact(X31 (fun p q hpq=>by simpa using hpq)).1 h4
        exact(oW.1 h5).symm
       have e2:a=[]↔(bZ s a b).num=0:=by
        have h6:qn (bZ s a b)=[]↔(bZ s a b).num=0:=by unfold qn;rw[dV,Xt1]
        rwa [e1]at h6
       by_cases h0:(bZ s a b).num=0
       ·have h1:¬ (a≠[]):=fun h=>h (e2.2 h0)
        rw[decide_eq_false h1,h0];rfl
       ·have h1:¬ a=[]:=fun h=>h0 (e2.1 h)
        have h2:(bZ s a b).num.sign≠0:=fun h=>h0 (Q90.1 h)
        simp[h1,h2]
      replace t1:=t1 (k1+k2) omK;replace t2:=t2 (k1+k2) omK;rw[<-hsg];generalize k1+k2=N at*;clear hq;generalize (bZ s a b).num.sign=sg at*;refine Ca.bO (n:=N+200) ?_;rw[av rfl (k203:E0.fn _=_) rfl];simp only[raw,LD]at*;generalize LL a=as',LL b=bs',x+y+z=deg at*;simp -implicitDefEqProofs[f203,aC,w1,w2,w3,a1,a2,b1,b2,c1,c2,hdg,hd,t1,t2]
    ·rw[decide_eq_false hd];refine Ca.bO (n:=300) ?_;rw[av rfl (k203:E0.fn _=_) rfl];simp only[LD]at*;generalize LL a=as',LL b=bs',x+y+z=deg at*;simp -implicitDefEqProofs[f203,aC,w1,w2,w3,a1,a2,b1,b2,c1,c2,hdg,hd]
   ·rw[q3];refine Ca.bO (n:=300) ?_;rw[av rfl (k203:E0.fn _=_) rfl];simp only[LD]at*;simp -implicitDefEqProofs[f203,aC,w1,w2,a1,a2,b1,b2,c1]
   ·rw[q3];refine Ca.bO (n:=300) ?_;rw[av rfl (k203:E0.fn _=_) rfl];simp only[LD]at*;simp -implicitDefEqProofs[f203,aC,w1,w2,a1,a2,b1,b2,c1,c2]
  ·rw[q2];refine Ca.bO (n:=300) ?_;rw[av rfl (k203:E0.fn _=_) rfl];simp only[LD]at*;simp -implicitDefEqProofs[f203,aC,w1,a1,a2,b1]
  ·rw[q2];refine Ca.bO (n:=300) ?_;rw[av rfl (k203:E0.fn _=_) rfl];simp only[LD]at*;simp -implicitDefEqProofs[f203,aC,w1,a1,a2,b1,b2]
 ·rw[q1];refine Ca.bO (n:=300) ?_;rw[av rfl (k203:E0.fn _=_) rfl];simp only[LD]at*;simp -implicitDefEqProofs[f203,aC,a1]
 ·rw[q1];refine Ca.bO (n:=300) ?_;rw[av rfl (k203:E0.fn _=_) rfl];simp only[LD]at*;simp -implicitDefEqProofs[f203,aC,a1,a2]
def PD (l:List Mo):D:=.s 6 (l.map Mo.d)
def zA:Option Mo->List Mo->Bool
 | _,[]=>true
 | none,m::r=>m.fits&&zA (some m) r
 | some q,m::r=>m.fits&&decide (jb q.e m.e<0)&&zA (some m) r
def ry:Option Mo->Mo->Bool
 | none,_=>true
 | some q,m=>decide (jb q.e m.e<0)
def Po (l:List Mo):Prop:=(∀ m ∈ l,m.ok)/\l.length<=1000000
def Yp:aG:=f150.body.r.l.r.bl.lp
def Xp (l:List Mo)(k:Nat)(bs:List ae)(t:FV):St:=(st0 [.d (PD l),.u,.u,.u,.d (PD l),.d (.v (.int .i64 l.length)),.d (.v (.int .i64 k)),t,.u] bs)
def pvF (bs:List ae):St:=(st0 [.u,.d (.v (.bool false)),.u,.u,.u,.u,.u,.u,.u] bs)
theorem lV {α:Type}{bs:List α}{k:Nat}{o:α}(h:bs.length=k):(bs++[o])[k]?=some o:=by subst h;simp
theorem lW {α:Type}{bs:List α}{k:Nat}{o o':α}(h:bs.length=k):(bs++[o]).set k o'=bs++[o']:=by subst h;simp
theorem TE (l:List Mo)(k:Nat)(bs:List ae)(m:Mo)(hl:Po l)(hk:l[k]?=some m)(hb:bs.length=k) :
  ∃ bs',bs'.length=k+1/\Ex E0 Yp (Xp l k bs .u) (if m.fits&&ry (if k=0 then none else l[k-1]?) m then(.norm,Xp l (k+1) bs' .u) else(.ret,pvF bs')):=by
 have ahL:=hl.1 m (Qa2 hk);have hkl:k<l.length:=(bD hk)
 have hll:=hl.2;obtain⟨N,hf⟩:=(Yo m ahL).get;have hes:(l.map Mo.d)[k]?=some m.d:=by simp[hk]
 have hlen:(l.map Mo.d).length=l.length:=by simp
 have bz:ah .i64 ((k:Int)+1)=(k:Int)+1:=wrap_i64 omK;have hk1:((k+1:Nat):Int)=(k:Int)+1:=by omega
 have hk0:(0:Int)<=(k:Int):=by omega
 have hg:=fun(o:ae)=>lV (o:=o) hb
 have hs:=fun(o o':ae)=>lW (o:=o) (o':=o') hb
 refine⟨bs++[.box (m.d.cells.map .d)],by simp[hb],Ex.of (n:=N+300) ?_⟩;unfold Xp pvF;rw[hk1];simp only[PD];cases hfit:m.fits
 ·rw[hfit]at hf;obtain⟨e,s,a,b⟩:=m;simp only[Mo.d]at*;generalize LL a=x1,LL b=x2 at*;simp only[LD]at*;generalize List.map Mo.d l=es at*;have i1:=idx hes;simp -implicitDefEqProofs[Yp,f150,hkl,hk0,hes,i1,hlen,hb,hg,hs,hf]
 ·rw[hfit]at hf
  by_cases hz:k=0
  ·subst hz;rw[if_pos rfl];simp only[ry];obtain⟨e,s,a,b⟩:=m;simp only[Mo.d]at*;generalize LL a=x1,LL b=x2 at*;simp only[LD]at*;generalize List.map Mo.d l=es at*;have i1:=idx hes;have w1:ah .i64 1=1:=wrap_i64 omK;simp -implicitDefEqProofs[Yp,f150,hkl,hes,i1,hlen,hb,hg,hs,hf,w1]
  ·rw[if_neg hz];obtain⟨q,hq⟩:∃ q,l[k-1]?=some q:=⟨l[k-1]'(by omega),Qa0 omK⟩
   rw[hq];have TG:(l.map Mo.d)[k-1]?=some q.d:=by simp[hq]
   have TH:=fun n=>LM n q.e m.e
   have hdec:ah .i64 ((k:Int)-1)=((k-1:Nat):Int):=by rw[wrap_i64 omK];omega
   have hkp:(0:Int)<(k:Int):=by omega
   have TI:0<k:=by omega
   have TJ:k-1<l.length:=by omega
   have hd:decide (jb q.e m.e<0) = !decide (0<=jb q.e m.e):=by rw[<-decide_not];simp only[Int.not_le]
   simp only[ry,hd];obtain⟨e,s,a,b⟩:=m;obtain⟨e',s',a',b'⟩:=q;simp only[Mo.d,lM]at*;generalize jb e' e=og,LL a=x1,LL b=x2 at*;generalize LL a'=x3,LL b'=x4 at*;simp only[LD]at*;generalize List.map Mo.d l=es at*;have i1:=idx hes;have i2:=idx TG;generalize k-1=k' at*
   by_cases hog:0<=og
   ·simp -implicitDefEqProofs[Yp,f150,hkl,hk0,TI,hes,i1,TG,i2,hlen,hb,hg,hs,hf,TH,hdec,TJ,hog]
   ·simp -implicitDefEqProofs[Yp,f150,hkl,hk0,TI,hes,i1,TG,i2,hlen,hb,hg,hs,hf,TH,hdec,TJ,hog,bz]
theorem Ja (l:List Mo)(k:Nat)(m:Mo)(hk:l[k]?=some m) :
  zA (if k=0 then none else l[k-1]?) (l.drop k)=(m.fits&&ry (if k=0 then none else l[k-1]?) m&&zA (some m) (l.drop (k+1))):=by
 have hkl:=(bD hk)
 have hd:l.drop k=m::l.drop (k+1):=by
  rw[Qj0 hkl];rw[Qa0 hkl]at hk;rw[Qo2 hk]
 rw[hd];cases (if k=0 then none else l[k-1]?) with
 | none=>simp[zA,ry]
 | some q=>simp[zA,ry]
theorem Yq (l:List Mo)(hl:Po l) :
  ∃ r,Ex E0 (.loop Yp) (Xp l 0 [] .u) r/\((zA none l=true/\∃ bs,r=(.exit 0,Xp l l.length bs (.d (.v (.bool false)))))\/(zA none l=false/\∃ bs,r=(.ret,pvF bs))):=by
 refine Ex.inv (S:=fun t:Nat × List ae=>Xp l t.1 t.2 .u) (fun t=>l.length-t.1) (fun t=>t.1<=l.length/\t.2.length=t.1/\zA none l=zA (if t.1=0 then none else l[t.1-1]?) (l.drop t.1)) _ ?_ (0,[]) ⟨by simp,rfl,by simp⟩;rintro⟨k,bs⟩ ⟨h1,h2,h3⟩;simp only at h1 h2 h3
 by_cases hk:k<l.length
 ·have hm:l[k]?=some (l[k]'hk):=Qa0 hk;generalize l[k]'hk=m at hm;obtain⟨bs',hb',hr⟩:=TE l k bs m hl hm h2;rw[Ja l k m hm]at h3;cases hc:(m.fits&&ry (if k=0 then none else l[k-1]?) m)
  ·rw[hc]at hr h3;exact .inr ⟨_,hr,by simp,.inr ⟨by simpa using h3,bs',rfl⟩⟩
  ·rw[hc]at hr h3;refine .inl ⟨(k+1,bs'),hr,by simp only;omega,by simp only;omega,hb',?_⟩;rw[h3,if_neg (by simp),Qs0];simp only[Q12,hm]
 ·have he:k=l.length:=by omega
  subst he;rw[Qt1]at h3;refine .inr ⟨_,Ex.of (n:=60) ?_,?_,.inl ⟨?_,bs,rfl⟩⟩
  ·unfold Xp;generalize PD l=p at*;simp -implicitDefEqProofs[Yp,f150]
  ·simp
  ·rw[h3];cases (if l.length=0 then none else l[l.length-1]?)<;>simp[zA]
theorem ER (l:List Mo)(hl:Po l):Ca E0 150 [.d (PD l)] (.d (.v (.bool (zA none l))),none):=by
 obtain⟨r,hr,h⟩:=Yq l hl;have hlen:(l.map Mo.d).length=l.length:=by simp
 have hA:Ex E0 f150.body.l (st0 [.d (PD l),.u,.u,.u,.u,.u,.u,.u,.u] []) (.norm,(st0 [.d (PD l),.u,.u,.u,.u,.u,.u,.u,.u] [])):=by
  refine Ex.of (n:=40) ?_;generalize PD l=p at*;simp -implicitDefEqProofs[f150]
 have hB:Ex E0 f150.body.r.l.l (st0 [.d (PD l),.u,.u,.u,.u,.u,.u,.u,.u] []) (.norm,Xp l 0 [] .u):=by
  refine Ex.of (n:=40) ?_;unfold Xp;simp only[PD];generalize List.map Mo.d l=es at*;simp -implicitDefEqProofs[f150,hlen]
 rcases h with ⟨hv,bs,rfl⟩|⟨hv,bs,rfl⟩
 ·rw[hv];refine Ca.body (o:=.ret) (st1:=(st0 [.u,.d (.v (.bool true)),.u,.u,.u,.u,.u,.u,.u] bs)) rfl (k150:E0.fn _=_) rfl ?_ (by intro id h;cases h) ?_
  ·show Ex E0 (.seq f150.body.l (.seq (.seq f150.body.r.l.l (.block 0 (.loop Yp))) f150.body.r.r)) _ _;refine hA.seq ((hB.seq hr.block).seq (Ex.of (n:=40) ?_));unfold Xp;generalize PD l=p at*;simp -implicitDefEqProofs[f150]
  ·simp -implicitDefEqProofs[f150]
 ·rw[hv];refine Ca.body (o:=.ret) (st1:=pvF bs) rfl (k150:E0.fn _=_) rfl ?_ (by intro id h;cases h) ?_
  ·show Ex E0 (.seq f150.body.l (.seq (.seq f150.body.r.l.l (.block 0 (.loop Yp))) f150.body.r.r)) _ _;exact hA.seq (hB.seq hr.b_).dG
  ·simp -implicitDefEqProofs[f150,pvF]
theorem rz (u:Int):(kU u=true/\¬ u<0/\¬ 5<u/\0<=u/\u<=5)\/(kU u=false/\u<0)\/(kU u=false/\¬ u<0/\5<u):=by
 unfold kU
 by_cases h1:u<0
 ·simp[h1]
 ·by_cases h2:5<u
  ·simp[h1,h2]
  ·refine .inl ⟨by simp[h1,h2],h1,h2,by omega,by omega⟩
theorem oZ (n:Nat)(e:Int × Int × Int):CL E0 (n+300) 167 [.d (lM e)] []=some (.d (.v (.bool (bR e))),none):=by
 rw[av rfl (k167:E0.fn _=_) rfl];obtain⟨x,y,z⟩:=e;simp only[lM,bR];have w1:ah .i64 1=1:=wrap_i64 omK;have w2:ah .i64 2=2:=wrap_i64 omK;have w3:ah .i64 3=3:=wrap_i64 omK;rcases rz x with ⟨q1,a1,a2,a3,a4⟩|⟨q1,a1⟩|⟨q1,a1,a2⟩
 ·have u1:ah .i64 x=x:=wrap_i64 omK;rcases rz y with ⟨q2,b1,b2,b3,b4⟩|⟨q2,b1⟩|⟨q2,b1,b2⟩
  ·have u2:ah .i64 (x+y)=x+y:=wrap_i64 omK;rcases rz z with ⟨q3,c1,c2,c3,c4⟩|⟨q3,c1⟩|⟨q3,c1,c2⟩
   ·have u3:ah .i64 (x+y+z)=x+y+z:=wrap_i64 omK;rw[q1,q2,q3];simp -implicitDefEqProofs[f167,aC,w1,w2,w3,a1,a2,b1,b2,c1,c2,u1,u2,u3]
   ·rw[q3];simp -implicitDefEqProofs[f167,aC,w1,w2,a1,a2,b1,b2,c1,u1,u2]
   ·rw[q3];simp -implicitDefEqProofs[f167,aC,w1,w2,a1,a2,b1,b2,c1,c2,u1,u2]
  ·rw[q2];simp -implicitDefEqProofs[f167,aC,w1,a1,a2,b1,u1]
  ·rw[q2];simp -implicitDefEqProofs[f167,aC,w1,a1,a2,b1,b2,u1]
 ·rw[q1];simp -implicitDefEqProofs[f167,aC,a1]
 ·rw[q1];simp -implicitDefEqProofs[f167,aC,a1,a2]
theorem j5 (n:Nat)(d e:Int × Int × Int):CL E0 (n+200) 168 [.d (lM e),.d (lM d)] []=some (.d (.v (.int .i64 (jb d e))),none):=by
 rw[av rfl (k168:E0.fn _=_) rfl];obtain⟨a,b,c⟩:=d;obtain⟨a',b',c'⟩:=e;simp only[lM,jb,iB];have w1:ah .i64 1=1:=wrap_i64 omK;have w2:ah .i64 2=2:=wrap_i64 omK;have w3:ah .i64 3=3:=wrap_i64 omK;rcases Q81 a' a with h|h|h
 ·have e1:(a' != a)=true:=by simp;omega
  simp -implicitDefEqProofs[f168,aC,h,e1]
 ·subst h;rcases Q81 b' b with h|h|h
  ·have e1:(b' != b)=true:=by simp;omega
   simp -implicitDefEqProofs[f168,aC,w1,h,e1]
  ·subst h;rcases Q81 c' c with h|h|h
   ·have e1:(c' != c)=true:=by simp;omega
    simp -implicitDefEqProofs[f168,aC,w1,w2,h,e1]
   ·subst h;simp -implicitDefEqProofs[f168,aC,w1,w2,w3]
   ·have e1:(c' != c)=true:=by simp;omega
    have e2:¬ c'<c:=by omega
    simp -implicitDefEqProofs[f168,aC,w1,w2,h,e1,e2]
  ·have e1:(b' != b)=true:=by simp;omega
   have e2:¬ b'<b:=by omega
   simp -implicitDefEqProofs[f168,aC,w1,h,e1,e2]
 ·have e1:(a' != a)=true:=by simp;omega
  have e2:¬ a'<a:=by omega
  simp -implicitDefEqProofs[f168,aC,h,e1,e2]
def TK:aG:=f99.body.r.l.r.bl.lp
def Xq (l:List Mo)(k:Nat)(t:FV):St:=(st0 [.d (PD l),.u,.d (.v (.int .i64 k)),t,.u] [])
def qvF:St:=(st0 [.u,.d (.v (.bool false)),.u,.u,.u] [])
theorem TL (l:List Mo)(k:Nat)(m:Mo)(hl:Po l)(hk:l[k]?=some m) :
  Ex E0 TK (Xq l k .u) (if m.fits&&ry (if k=0 then none else l[k-1]?) m then(.norm,Xq l (k+1) .u) else(.ret,qvF)):=by
 obtain⟨ha,hb,la,lb⟩:=hl.1 m (Qa2 hk);have hkl:k<l.length:=(bD hk)
 have hll:=hl.2;have hp:=fun n=>oZ n m.e
 obtain⟨N,hv⟩:=(tX m.s m.a m.b omK omK ha hb).any;have hes:(l.map Mo.d)[k]?=some m.d:=by simp[hk]
 have hlen:(l.map Mo.d).length=l.length:=by simp
 have bz:ah .i64 ((k:Int)+1)=(k:Int)+1:=wrap_i64 omK;have hk1:((k+1:Nat):Int)=(k:Int)+1:=by omega
 have hk0:(0:Int)<=(k:Int):=by omega
 unfold Xq qvF;rw[hk1];simp only[PD];cases h1:bR m.e
 ·have e1:m.fits=false:=by simp[Mo.fits,h1]
  rw[e1];rw[h1]at hp;refine Ex.of (n:=400) ?_;obtain⟨e,s,a,b⟩:=m;simp only[Mo.d,lM]at*;generalize LL a=x1,LL b=x2 at*;simp only[LD]at*;generalize List.map Mo.d l=es at*;have i1:=idx hes;simp -implicitDefEqProofs[TK,f99,hkl,hk0,i1,hlen,hp]
 ·rw[h1]at hp;cases h2:dP m.s m.a m.b
  ·have e1:m.fits=false:=by simp[Mo.fits,h2]
   rw[e1];rw[h2]at hv;replace hv:=hv N omK;refine Ex.of (n:=N+400) ?_;obtain⟨e,s,a,b⟩:=m;simp only[Mo.d,lM,raw]at*;generalize LL a=x1,LL b=x2 at*;simp only[LD]at*;generalize List.map Mo.d l=es at*;have i1:=idx hes;simp -implicitDefEqProofs[TK,f99,hkl,hk0,i1,hlen,hp,hv]
  ·rw[h2]at hv;have hq:=tY ha hb h2;have hz:=wJ ha hb 1000 la lb omK h2;obtain⟨N2,hs⟩:=(mI (bZ m.s m.a m.b) omK).any;rw[<-hq]at hs;have hsg:((bZ m.s m.a m.b).num.sign==0)=decide (m.a=[]):=by
    have e1:qn (bZ m.s m.a m.b)=m.a:=by
     have:=hq;simp only[raw,qD,D.a.injEq,Xs1,LD,D.s.injEq,true_and]at this;have h4:LL m.a=LL (qn (bZ m.s m.a m.b)):=this.2.1;rw[I7,I7]at h4;have h5:(m.a.map fun(x:Nat)=>(x:Int))=((qn (bZ m.s m.a m.b)).map fun(x:Nat)=>(x:Int)):=by
      unfold LK at h4;exact(X31 (fun p q hpq=>by simpa using hpq)).1 h4
     exact(oW.1 h5).symm
    have e2:m.a=[]↔(bZ m.s m.a m.b).num=0:=by
     have h6:qn (bZ m.s m.a m.b)=[]↔(bZ m.s m.a m.b).num=0:=by unfold qn;rw[dV,Xt1]
     rwa [e1]at h6
    by_cases h0:(bZ m.s m.a m.b).num=0
    ·rw[decide_eq_true (e2.2 h0),h0];rfl
    ·have h1:¬ m.a=[]:=fun h=>h0 (e2.1 h)
     have h2:(bZ m.s m.a m.b).num.sign≠0:=fun h=>h0 (Q90.1 h)
     rw[decide_eq_false h1];simpa using h2
   replace hv:=hv (N+N2) omK;replace hs:=hs (N+N2) omK;generalize N+N2=M at*;clear hq hz;generalize (bZ m.s m.a m.b).num.sign=sg at*
   by_cases h3:m.a=[]
   ·have e1:m.fits=false:=by simp[Mo.fits,h3]
    rw[e1];rw[decide_eq_true h3]at hsg;refine Ex.of (n:=M+400) ?_;obtain⟨e,s,a,b⟩:=m;simp only[Mo.d,lM,raw]at*;generalize LL a=x1,LL b=x2 at*;simp only[LD]at*;generalize List.map Mo.d l=es at*;have i1:=idx hes;simp -implicitDefEqProofs[TK,f99,hkl,hk0,i1,hlen,hp,hv,hs,hsg]
   ·have e1:m.fits=true:=by simp[Mo.fits,h1,h2,h3]
    rw[e1];rw[decide_eq_false h3]at hsg
    by_cases ae_:k=0
    ·subst ae_;rw[if_pos rfl];simp only[ry];have w1:ah .i64 1=1:=wrap_i64 omK;refine Ex.of (n:=M+400) ?_;obtain⟨e,s,a,b⟩:=m;simp only[Mo.d,lM,raw]at*;generalize LL a=x1,LL b=x2 at*;simp only[LD]at*;generalize List.map Mo.d l=es at*;have i1:=idx hes;simp -implicitDefEqProofs[TK,f99,hkl,i1,hlen,hp,hv,hs,hsg,w1]
    ·rw[if_neg ae_];obtain⟨q,hq⟩:∃ q,l[k-1]?=some q:=⟨l[k-1]'(by omega),Qa0 omK⟩
     rw[hq];have TG:(l.map Mo.d)[k-1]?=some q.d:=by simp[hq]
     have TH:=fun n=>j5 n q.e m.e
     have hdec:ah .i64 ((k:Int)-1)=((k-1:Nat):Int):=by rw[wrap_i64 omK];omega
     have TI:0<k:=by omega
     have TJ:k-1<l.length:=by omega
     have hd:decide (jb q.e m.e<0) = !decide (0<=jb q.e m.e):=by rw[<-decide_not];simp only[Int.not_le]
     simp only[ry,hd];refine Ex.of (n:=M+400) ?_;obtain⟨e,s,a,b⟩:=m;obtain⟨e',s',a',b'⟩:=q;simp only[Mo.d,lM,raw]at*;generalize jb e' e=og,LL a=x1,LL b=x2 at*;generalize LL a'=x3,LL b'=x4 at*;simp only[LD]at*;generalize List.map Mo.d l=es at*;have i1:=idx hes;have i2:=idx TG;generalize k-1=k' at*
     by_cases hog:0<=og
     ·simp -implicitDefEqProofs[TK,f99,hkl,hk0,TI,i1,i2,hlen,hp,hv,hs,hsg,TH,hdec,TJ,hog]
     ·simp -implicitDefEqProofs[TK,f99,hkl,hk0,TI,i1,i2,hlen,hp,hv,hs,hsg,TH,hdec,TJ,hog,bz]
theorem Yr (l:List Mo)(hl:Po l) :
  ∃ r,Ex E0 (.loop TK) (Xq l 0 .u) r/\((zA none l=true/\r=(.exit 0,Xq l l.length (.d (.v (.bool false)))))\/(zA none l=false/\r=(.ret,qvF))):=by
 refine Ex.inv (S:=fun k:Nat=>Xq l k .u) (fun k=>l.length-k) (fun k=>k<=l.length/\zA none l=zA (if k=0 then none else l[k-1]?) (l.drop k)) _ ?_ 0 ⟨by simp,by simp⟩;rintro k ⟨h1,h3⟩
 by_cases hk:k<l.length
 ·have hm:l[k]?=some (l[k]'hk):=Qa0 hk;generalize l[k]'hk=m at hm;have hr:=TL l k m hl hm;rw[Ja l k m hm]at h3;cases hc:(m.fits&&ry (if k=0 then none else l[k-1]?) m)
  ·rw[hc]at hr h3;exact .inr ⟨_,hr,by simp,.inr ⟨by simpa using h3,rfl⟩⟩
  ·rw[hc]at hr h3;refine .inl ⟨k+1,hr,by omega,by omega,?_⟩;rw[h3,if_neg (by simp),Qs0];simp only[Q12,hm]
 ·have he:k=l.length:=by omega
  subst he;have hlen:(l.map Mo.d).length=l.length:=by simp
  rw[Qt1]at h3;refine .inr ⟨_,Ex.of (n:=60) ?_,?_,.inl ⟨?_,rfl⟩⟩
  ·unfold Xq;simp only[PD];generalize List.map Mo.d l=es at*;simp -implicitDefEqProofs[TK,f99,hlen]
  ·simp
  ·rw[h3];cases (if l.length=0 then none else l[l.length-1]?)<;>simp[zA]
theorem ES (l:List Mo)(hl:Po l):Ca E0 99 [.d (PD l)] (.d (.v (.bool (zA none l))),none):=by
 obtain⟨r,hr,h⟩:=Yr l hl;have hA:Ex E0 f99.body.l (st0 [.d (PD l),.u,.u,.u,.u] []) (.norm,(st0 [.d (PD l),.u,.u,.u,.u] [])):=by
  refine Ex.of (n:=40) ?_;generalize PD l=p at*;simp -implicitDefEqProofs[f99]
 have hB:Ex E0 f99.body.r.l.l (st0 [.d (PD l),.u,.u,.u,.u] []) (.norm,Xq l 0 .u):=by
  refine Ex.of (n:=40) ?_;unfold Xq;generalize PD l=p at*;simp -implicitDefEqProofs[f99]
 rcases h with ⟨hv,rfl⟩|⟨hv,rfl⟩
 ·rw[hv];refine Ca.body (o:=.ret) (st1:=(st0 [.u,.d (.v (.bool true)),.u,.u,.u] [])) rfl (k99:E0.fn _=_) rfl ?_ (by intro id h;cases h) ?_
  ·show Ex E0 (.seq f99.body.l (.seq (.seq f99.body.r.l.l (.block 0 (.loop TK))) f99.body.r.r)) _ _;refine hA.seq ((hB.seq hr.block).seq (Ex.of (n:=40) ?_));unfold Xq;generalize PD l=p at*;simp -implicitDefEqProofs[f99]
  ·simp -implicitDefEqProofs[f99]
 ·rw[hv];refine Ca.body (o:=.ret) (st1:=qvF) rfl (k99:E0.fn _=_) rfl ?_ (by intro id h;cases h) ?_
  ·show Ex E0 (.seq f99.body.l (.seq (.seq f99.body.r.l.l (.block 0 (.loop TK))) f99.body.r.r)) _ _;exact hA.seq (hB.seq hr.b_).dG
  ·simp -implicitDefEqProofs[f99,qvF]
def iT {α:Type}(eq:α->α->Bool):List α->List α->Bool
 | [],[]=>true
 | x::r,y::s=>eq x y&&iT eq r s
 | _,_=>false
theorem j6 {α:Type}{eq:α->α->Bool}:∀ {a b:List α},iT eq a b=true->a.length=b.length
 | [],[],_=>rfl
 | x::r,y::s,h=>by
  simp only[iT,Qb2]at h;simp[j6 h.2]
 | [],_::_,h=>by simp[iT]at h
 | _::_,[],h=>by simp[iT]at h
def Mo.eq (m n:Mo):Bool:=decide (m.e=n.e)&&(m.s==n.s&&decide (m.a=n.a)&&decide (m.b=n.b))
theorem Yt (m n:Mo)(hm:m.ok)(hn:n.ok):Ca E0 71 [.d m.d,.d n.d] (.d (.v (.bool (m.eq n))),none):=by
 obtain⟨_,_,la,lb⟩:=hm;obtain⟨_,_,la',lb'⟩:=hn;obtain⟨N,t⟩:=(BH m.s n.s m.a m.b n.a n.b omK omK omK omK).get;have he:decide (m.e=n.e)=(m.e.1==n.e.1&&(m.e.2.1==n.e.2.1&&m.e.2.2==n.e.2.2)):=by
  obtain⟨⟨x,y,z⟩,_,_,_⟩:=m;obtain⟨⟨x',y',z'⟩,_,_,_⟩:=n;simp only[Qm2,Bool.decide_and];rfl
 refine Ca.bO (n:=N+60) ?_;rw[av rfl (k71:E0.fn _=_) rfl];unfold Mo.eq;rw[he];generalize (m.s==n.s&&decide (m.a=n.a)&&decide (m.b=n.b))=r at*;obtain⟨⟨x,y,z⟩,s,a,b⟩:=m;obtain⟨⟨x',y',z'⟩,s',a',b'⟩:=n;simp only[Mo.d,raw,LD]at*;generalize LL a=x1,LL b=x2 at*;generalize LL a'=x3,LL b'=x4 at*;cases h1:(x==x')<;>cases h2:(y==y')<;>cases h3:(z==z')<;>simp -implicitDefEqProofs[f71,dC,h1,h2,h3,t]
def LP:aG:=f73.body.r.r.l.r.bl.lp
def Em (l1 l2:List Mo)(g k:Nat)(bs:List ae)(t:FV):St:=(st0 [.u,.d (.s 6 (l2.map Mo.d)),.d (.fn g),.u,.u,.u,.u,.u,.d (.s 6 (l1.map Mo.d)),.d (.v (.int .i64 l1.length)),.d (.v (.int .i64 k)),t,.u] bs)
def TM (bs:List ae):St:=(st0 [.u,.u,.u,.d (.v (.bool false)),.u,.u,.u,.u,.u,.u,.u,.u,.u] bs)
theorem P7 (l1 l2:List Mo)(g k:Nat)(bs:List ae)(x y:Mo)(v:Bool)(h1:l1.length<=1000000)(hx:l1[k]?=some x)(hy:l2[k]?=some y)(hc:Ca E0 g [.d x.d,.d y.d] (.d (.v (.bool v)),none)) :
  ∃ bs',Ex E0 LP (Em l1 l2 g k bs .u) (if v then(.norm,Em l1 l2 g (k+1) bs' .u) else(.ret,TM bs')):=by
 have hkl:k<l1.length:=(bD hx)
 have o7:k<l2.length:=(bD hy)
 obtain⟨N,hf⟩:=hc.get;have e1:(l1.map Mo.d)[k]?=some x.d:=by simp[hx]
 have e2:(l2.map Mo.d)[k]?=some y.d:=by simp[hy]
 have n1:(l1.map Mo.d).length=l1.length:=by simp
 have n2:(l2.map Mo.d).length=l2.length:=by simp
 have bz:ah .i64 ((k:Int)+1)=(k:Int)+1:=wrap_i64 omK;have hk1:((k+1:Nat):Int)=(k:Int)+1:=by omega
 have hk0:(0:Int)<=(k:Int):=by omega
 obtain⟨B,hB⟩:∃ B,bs.length=B:=⟨_,rfl⟩
 have hg:=fun(o:ae)=>lV (o:=o) hB
 have hs:=fun(o o':ae)=>lW (o:=o) (o':=o') hB
 have hg2:=fun(o o2:ae)=>lV (bs:=bs++[o]) (o:=o2) (k:=B+1) (by simp[hB])
 have hs2:=fun(o o2 o':ae)=>lW (bs:=bs++[o]) (o:=o2) (o':=o') (k:=B+1) (by simp[hB])
 have hg3:∀ (o o2:ae),(bs++[o]++[o2])[B]?=some o:=fun o o2=>by rw[Qo1,Qc1 omK,hB];simp
 simp only[Qo1,Q52,Qy0]at hg2 hs2 hg3;refine⟨bs++[.box (x.d.cells.map .d)]++[.box (y.d.cells.map .d)],Ex.of (n:=N+300) ?_⟩;unfold Em TM;rw[hk1];obtain⟨ex,sx,ax,bx⟩:=x;obtain⟨ey,sy,ay,by2⟩:=y;simp only[Mo.d]at*;generalize LL ax=x1,LL bx=x2,LL ay=x3,LL by2=x4 at*;simp only[LD]at*;generalize List.map Mo.d l1=es1,List.map Mo.d l2=es2 at*;have i1:=idx e1;have i2:=idx e2;cases v
 ·simp -implicitDefEqProofs[LP,f73,hkl,o7,hk0,e1,e2,i1,i2,n1,n2,hB,hg,hs,hg2,hs2,hg3,hf]
 ·simp -implicitDefEqProofs[LP,f73,hkl,o7,hk0,e1,e2,i1,i2,n1,n2,hB,hg,hs,hg2,hs2,hg3,hf,bz]
theorem TN (eq:Mo->Mo->Bool)(l1 l2:List Mo)(g:Nat)(h1:l1.length<=1000000)(hl:l1.length=l2.length)(hc:∀ x ∈ l1,∀ y ∈ l2,Ca E0 g [.d x.d,.d y.d] (.d (.v (.bool (eq x y))),none)) :
  ∃ r,Ex E0 (.loop LP) (Em l1 l2 g 0 [] .u) r/\((iT eq l1 l2=true/\∃ bs,r=(.exit 0,Em l1 l2 g l1.length bs (.d (.v (.bool false)))))\/(iT eq l1 l2=false/\∃ bs,r=(.ret,TM bs))):=by
 refine Ex.inv (S:=fun t:Nat × List ae=>Em l1 l2 g t.1 t.2 .u) (fun t=>l1.length-t.1) (fun t=>t.1<=l1.length/\iT eq l1 l2=iT eq (l1.drop t.1) (l2.drop t.1)) _ ?_ (0,[]) ⟨by simp,by simp⟩;rintro⟨k,bs⟩ ⟨q1,q2⟩;simp only at q1 q2
 by_cases hk:k<l1.length
 ·have hx:l1[k]?=some (l1[k]'hk):=Qa0 hk;have hy:l2[k]?=some (l2[k]'(by omega)):=Qa0 omK;have d1:l1.drop k=l1[k]'hk::l1.drop (k+1):=Qj0 hk;have d2:l2.drop k=l2[k]'(by omega)::l2.drop (k+1):=Qj0 omK;obtain⟨bs',hr⟩:=P7 l1 l2 g k bs _ _ _ h1 hx hy (hc _ (Qi2 hk) _ (Qi2 omK));rw[d1,d2]at q2;simp only[iT]at q2;cases hv:eq (l1[k]'hk) (l2[k]'(by omega))
  ·rw[hv]at hr q2;exact .inr ⟨_,hr,by simp,.inr ⟨by simpa using q2,bs',rfl⟩⟩
  ·rw[hv]at hr q2;exact .inl ⟨(k+1,bs'),hr,by simp only;omega,by simp only;omega,by simpa using q2⟩
 ·have he:k=l1.length:=by omega
  subst he;rw[Qt1,hl,Qt1]at q2;refine .inr ⟨_,Ex.of (n:=60) ?_,?_,.inl ⟨by rw[q2];rfl,bs,rfl⟩⟩
  ·unfold Em;generalize List.map Mo.d l1=es1,List.map Mo.d l2=es2,l1.length=m at*;simp -implicitDefEqProofs[LP,f73]
  ·simp
theorem abY (eq:Mo->Mo->Bool)(l1 l2:List Mo)(g:Nat)(h1:l1.length<=1000000)(h2:l2.length<=1000000)(hc:∀ x ∈ l1,∀ y ∈ l2,Ca E0 g [.d x.d,.d y.d] (.d (.v (.bool (eq x y))),none)) :
  Ca E0 73 [.d (.s 6 (l1.map Mo.d)),.d (.s 6 (l2.map Mo.d)),.d (.fn g)] (.d (.v (.bool (iT eq l1 l2))),none):=by
 have n1:(l1.map Mo.d).length=l1.length:=by simp
 have n2:(l2.map Mo.d).length=l2.length:=by simp
 have hA:Ex E0 f73.body.l (st0 [.d (.s 6 (l1.map Mo.d)),.d (.s 6 (l2.map Mo.d)),.d (.fn g),.u,.u,.u,.u,.u,.u,.u,.u,.u,.u] []) (.norm,(st0 [.d (.s 6 (l1.map Mo.d)),.d (.s 6 (l2.map Mo.d)),.d (.fn g),.u,.u,.u,.u,.u,.u,.u,.u,.u,.u] [])):=by
  refine Ex.of (n:=40) ?_;generalize List.map Mo.d l1=es1,List.map Mo.d l2=es2 at*;simp -implicitDefEqProofs[f73]
 by_cases hl:l1.length=l2.length
 ·obtain⟨r,hr,h⟩:=TN eq l1 l2 g h1 hl hc;have hB:Ex E0 f73.body.r.l (st0 [.d (.s 6 (l1.map Mo.d)),.d (.s 6 (l2.map Mo.d)),.d (.fn g),.u,.u,.u,.u,.u,.u,.u,.u,.u,.u] []) (.norm,(st0 [.d (.s 6 (l1.map Mo.d)),.d (.s 6 (l2.map Mo.d)),.d (.fn g),.u,.u,.u,.u,.d (.v (.bool false)),.u,.u,.u,.u,.u] [])):=by
   refine Ex.of (n:=40) ?_;generalize List.map Mo.d l1=es1,List.map Mo.d l2=es2 at*;simp -implicitDefEqProofs[f73,n1,n2,hl]
  have hC:Ex E0 f73.body.r.r.l.l (st0 [.d (.s 6 (l1.map Mo.d)),.d (.s 6 (l2.map Mo.d)),.d (.fn g),.u,.u,.u,.u,.d (.v (.bool false)),.u,.u,.u,.u,.u] []) (.norm,Em l1 l2 g 0 [] .u):=by
   refine Ex.of (n:=40) ?_;unfold Em;generalize List.map Mo.d l1=es1,List.map Mo.d l2=es2 at*;simp -implicitDefEqProofs[f73,n1]
  rcases h with ⟨hv,bs,rfl⟩|⟨hv,bs,rfl⟩
  ·rw[hv];refine Ca.body (o:=.ret) (st1:=(st0 [.u,.u,.u,.d (.v (.bool true)),.u,.u,.u,.u,.u,.u,.u,.u,.u] bs)) rfl (k73:E0.fn _=_) rfl ?_ (by intro id h;cases h) ?_
   ·show Ex E0 (.seq f73.body.l (.seq f73.body.r.l (.seq (.seq f73.body.r.r.l.l (.block 0 (.loop LP))) f73.body.r.r.r))) _ _;refine hA.seq (hB.seq ((hC.seq hr.block).seq (Ex.of (n:=40) ?_)));unfold Em;generalize List.map Mo.d l1=es1,List.map Mo.d l2=es2 at*;simp -implicitDefEqProofs[f73]
   ·simp -implicitDefEqProofs[f73]
  ·rw[hv];refine Ca.body (o:=.ret) (st1:=TM bs) rfl (k73:E0.fn _=_) rfl ?_ (by intro id h;cases h) ?_
   ·show Ex E0 (.seq f73.body.l (.seq f73.body.r.l (.seq (.seq f73.body.r.r.l.l (.block 0 (.loop LP))) f73.body.r.r.r))) _ _;exact hA.seq (hB.seq (hC.seq hr.b_).dG)
   ·simp -implicitDefEqProofs[f73,TM]
 ·have hf:iT eq l1 l2=false:=by
   cases h:iT eq l1 l2
   ·rfl
   ·exact absurd (j6 h) hl
  have hne:((l1.length:Int) != (l2.length:Int))=true:=by simp;omega
  rw[hf];refine Ca.bO (n:=60) ?_;rw[av rfl (k73:E0.fn _=_) rfl];generalize List.map Mo.d l1=es1,List.map Mo.d l2=es2 at*;simp -implicitDefEqProofs[f73,n1,n2,hne]
inductive W where
 | mk (s:Bool) (a b:List Nat) (c:Int) (i:Bool) (u:Int) (p:List Mo) (ps:List W)
mutual
def W.d:W->D
 | .mk s a b c i u p ps=>.a [.v (.bool s),LD a,LD b,.v (.int .i64 c),.v (.bool i),.v (.int .u64 u),PD p,.s 8 (W.ds ps)]
def W.ds:List W->List D
 | []=>[]
 | w::r=>w.d::W.ds r
end
theorem W.gX:∀ l:List W,W.ds l=l.map W.d
 | []=>rfl
 | w::r=>by simp[W.ds,W.gX r]
mutual
def W.eq:W->W->Bool
 | .mk s a b c i u p ps,.mk s' a' b' c' i' u' p' ps'=>(s==s'&&decide (a=a')&&decide (b=b'))&&(c==c')&&(i==i')&&(u==u')&&iT Mo.eq p p'&&W.eqs ps ps'
def W.eqs:List W->List W->Bool
 | [],[]=>true
 | x::r,y::s=>x.eq y&&W.eqs r s
 | _,_=>false
end
theorem W.Gu:∀ l m:List W,W.eqs l m=iT W.eq l m
 | [],[]=>rfl
 | x::r,y::s=>by simp[W.eqs,iT,W.Gu r s]
 | [],_::_=>rfl
 | _::_,[]=>rfl
inductive W.OK:W->Prop
 | mk {s:Bool} {a b:List Nat} {c:Int} {i:Bool} {u:Int} {p:List Mo} {ps:List W} (ha:bV a) (hb:bV b) (la:a.length<=1000) (lb:b.length<=1000) (hp:Po p) (lp:ps.length<=1000) (h:∀ w ∈ ps,W.OK w):W.OK (.mk s a b c i u p ps)
def LQ:aG:=f74.body.r.r.l.r.bl.lp
def En (l1 l2:List W)(g k:Nat)(bs:List ae)(t:FV):St:=(st0 [.u,.d (.s 8 (l2.map W.d)),.d (.fn g),.u,.u,.u,.u,.u,.d (.s 8 (l1.map W.d)),.d (.v (.int .i64 l1.length)),.d (.v (.int .i64 k)),t,.u] bs)
def TQ (bs:List ae):St:=(st0 [.u,.u,.u,.d (.v (.bool false)),.u,.u,.u,.u,.u,.u,.u,.u,.u] bs)
theorem P8 (l1 l2:List W)(g k:Nat)(bs:List ae)(x y:W)(v:Bool)(h1:l1.length<=1000000)(hx:l1[k]?=some x)(hy:l2[k]?=some y)(hc:Ca E0 g [.d x.d,.d y.d] (.d (.v (.bool v)),none)) :
  ∃ bs',Ex E0 LQ (En l1 l2 g k bs .u) (if v then(.norm,En l1 l2 g (k+1) bs' .u) else(.ret,TQ bs')):=by
 have hkl:k<l1.length:=(bD hx)
 have o7:k<l2.length:=(bD hy)
 obtain⟨N,hf⟩:=hc.get;have e1:(l1.map W.d)[k]?=some x.d:=by simp[hx]
 have e2:(l2.map W.d)[k]?=some y.d:=by simp[hy]
 have n1:(l1.map W.d).length=l1.length:=by simp
 have n2:(l2.map W.d).length=l2.length:=by simp
 have bz:ah .i64 ((k:Int)+1)=(k:Int)+1:=wrap_i64 omK;have hk1:((k+1:Nat):Int)=(k:Int)+1:=by omega
 have hk0:(0:Int)<=(k:Int):=by omega
 obtain⟨B,hB⟩:∃ B,bs.length=B:=⟨_,rfl⟩
 have hg:=fun(o:ae)=>lV (o:=o) hB
 have hs:=fun(o o':ae)=>lW (o:=o) (o':=o') hB
 have hg2:=fun(o o2:ae)=>lV (bs:=bs++[o]) (o:=o2) (k:=B+1) (by simp[hB])
 have hs2:=fun(o o2 o':ae)=>lW (bs:=bs++[o]) (o:=o2) (o':=o') (k:=B+1) (by simp[hB])
 have hg3:∀ (o o2:ae),(bs++[o]++[o2])[B]?=some o:=fun o o2=>by rw[Qo1,Qc1 omK,hB];simp
 simp only[Qo1,Q52,Qy0]at hg2 hs2 hg3;refine⟨bs++[.box (x.d.cells.map .d)]++[.box (y.d.cells.map .d)],Ex.of (n:=N+300) ?_⟩;unfold En TQ;rw[hk1];obtain⟨sx,ax,bx,cx,ix,ux,px,KZ⟩:=x;obtain⟨sy,ay,by2,cy,iy,uy,py,psy⟩:=y;simp only[W.d,PD]at*;generalize LL ax=x1,LL bx=x2,LL ay=x3,LL by2=x4,List.map Mo.d px=x5,List.map Mo.d py=x6,W.ds KZ=x7,W.ds psy=x8 at*;simp only[LD]at*;generalize List.map W.d l1=es1,List.map W.d l2=es2 at*;have i1:=idx e1;have i2:=idx e2;cases v
 ·simp -implicitDefEqProofs[LQ,f74,hkl,o7,hk0,e1,e2,i1,i2,n1,n2,hB,hg,hs,hg2,hs2,hg3,hf]
 ·simp -implicitDefEqProofs[LQ,f74,hkl,o7,hk0,e1,e2,i1,i2,n1,n2,hB,hg,hs,hg2,hs2,hg3,hf,bz]
theorem TR (eq:W->W->Bool)(l1 l2:List W)(g:Nat)(h1:l1.length<=1000000)(hl:l1.length=l2.length)(hc:∀ x ∈ l1,∀ y ∈ l2,Ca E0 g [.d x.d,.d y.d] (.d (.v (.bool (eq x y))),none)) :
  ∃ r,Ex E0 (.loop LQ) (En l1 l2 g 0 [] .u) r/\((iT eq l1 l2=true/\∃ bs,r=(.exit 0,En l1 l2 g l1.length bs (.d (.v (.bool false)))))\/(iT eq l1 l2=false/\∃ bs,r=(.ret,TQ bs))):=by
 refine Ex.inv (S:=fun t:Nat × List ae=>En l1 l2 g t.1 t.2 .u) (fun t=>l1.length-t.1) (fun t=>t.1<=l1.length/\iT eq l1 l2=iT eq (l1.drop t.1) (l2.drop t.1)) _ ?_ (0,[]) ⟨by simp,by simp⟩;rintro⟨k,bs⟩ ⟨q1,q2⟩;simp only at q1 q2
 by_cases hk:k<l1.length
 ·have hx:l1[k]?=some (l1[k]'hk):=Qa0 hk;have hy:l2[k]?=some (l2[k]'(by omega)):=Qa0 omK;have d1:l1.drop k=l1[k]'hk::l1.drop (k+1):=Qj0 hk;have d2:l2.drop k=l2[k]'(by omega)::l2.drop (k+1):=Qj0 omK;obtain⟨bs',hr⟩:=P8 l1 l2 g k bs _ _ _ h1 hx hy (hc _ (Qi2 hk) _ (Qi2 omK));rw[d1,d2]at q2;simp only[iT]at q2;cases hv:eq (l1[k]'hk) (l2[k]'(by omega))
  ·rw[hv]at hr q2;exact .inr ⟨_,hr,by simp,.inr ⟨by simpa using q2,bs',rfl⟩⟩
  ·rw[hv]at hr q2;exact .inl ⟨(k+1,bs'),hr,by simp only;omega,by simp only;omega,by simpa using q2⟩
 ·have he:k=l1.length:=by omega
  subst he;rw[Qt1,hl,Qt1]at q2;refine .inr ⟨_,Ex.of (n:=60) ?_,?_,.inl ⟨by rw[q2];rfl,bs,rfl⟩⟩
  ·unfold En;generalize List.map W.d l1=es1,List.map W.d l2=es2,l1.length=m at*;simp -implicitDefEqProofs[LQ,f74]
  ·simp
theorem LU (eq:W->W->Bool)(l1 l2:List W)(g:Nat)(h1:l1.length<=1000000)(h2:l2.length<=1000000)(hc:∀ x ∈ l1,∀ y ∈ l2,Ca E0 g [.d x.d,.d y.d] (.d (.v (.bool (eq x y))),none)) :
  Ca E0 74 [.d (.s 8 (l1.map W.d)),.d (.s 8 (l2.map W.d)),.d (.fn g)] (.d (.v (.bool (iT eq l1 l2))),none):=by
 have n1:(l1.map W.d).length=l1.length:=by simp
 have n2:(l2.map W.d).length=l2.length:=by simp
 have hA:Ex E0 f74.body.l (st0 [.d (.s 8 (l1.map W.d)),.d (.s 8 (l2.map W.d)),.d (.fn g),.u,.u,.u,.u,.u,.u,.u,.u,.u,.u] []) (.norm,(st0 [.d (.s 8 (l1.map W.d)),.d (.s 8 (l2.map W.d)),.d (.fn g),.u,.u,.u,.u,.u,.u,.u,.u,.u,.u] [])):=by
  refine Ex.of (n:=40) ?_;generalize List.map W.d l1=es1,List.map W.d l2=es2 at*;simp -implicitDefEqProofs[f74]
 by_cases hl:l1.length=l2.length
 ·obtain⟨r,hr,h⟩:=TR eq l1 l2 g h1 hl hc;have hB:Ex E0 f74.body.r.l (st0 [.d (.s 8 (l1.map W.d)),.d (.s 8 (l2.map W.d)),.d (.fn g),.u,.u,.u,.u,.u,.u,.u,.u,.u,.u] []) (.norm,(st0 [.d (.s 8 (l1.map W.d)),.d (.s 8 (l2.map W.d)),.d (.fn g),.u,.u,.u,.u,.d (.v (.bool false)),.u,.u,.u,.u,.u] [])):=by
   refine Ex.of (n:=40) ?_;generalize List.map W.d l1=es1,List.map W.d l2=es2 at*;simp -implicitDefEqProofs[f74,n1,n2,hl]
  have hC:Ex E0 f74.body.r.r.l.l (st0 [.d (.s 8 (l1.map W.d)),.d (.s 8 (l2.map W.d)),.d (.fn g),.u,.u,.u,.u,.d (.v (.bool false)),.u,.u,.u,.u,.u] []) (.norm,En l1 l2 g 0 [] .u):=by
   refine Ex.of (n:=40) ?_;unfold En;generalize List.map W.d l1=es1,List.map W.d l2=es2 at*;simp -implicitDefEqProofs[f74,n1]
  rcases h with ⟨hv,bs,rfl⟩|⟨hv,bs,rfl⟩
  ·rw[hv];refine Ca.body (o:=.ret) (st1:=(st0 [.u,.u,.u,.d (.v (.bool true)),.u,.u,.u,.u,.u,.u,.u,.u,.u] bs)) rfl (k74:E0.fn _=_) rfl ?_ (by intro id h;cases h) ?_
   ·show Ex E0 (.seq f74.body.l (.seq f74.body.r.l (.seq (.seq f74.body.r.r.l.l (.block 0 (.loop LQ))) f74.body.r.r.r))) _ _;refine hA.seq (hB.seq ((hC.seq hr.block).seq (Ex.of (n:=40) ?_)));unfold En;generalize List.map W.d l1=es1,List.map W.d l2=es2 at*;simp -implicitDefEqProofs[f74]
   ·simp -implicitDefEqProofs[f74]
  ·rw[hv];refine Ca.body (o:=.ret) (st1:=TQ bs) rfl (k74:E0.fn _=_) rfl ?_ (by intro id h;cases h) ?_
   ·show Ex E0 (.seq f74.body.l (.seq f74.body.r.l (.seq (.seq f74.body.r.r.l.l (.block 0 (.loop LQ))) f74.body.r.r.r))) _ _;exact hA.seq (hB.seq (hC.seq hr.b_).dG)
   ·simp -implicitDefEqProofs[f74,TQ]
 ·have hf:iT eq l1 l2=false:=by
   cases h:iT eq l1 l2
   ·rfl
   ·exact absurd (j6 h) hl
  have hne:((l1.length:Int) != (l2.length:Int))=true:=by simp;omega
  rw[hf];refine Ca.bO (n:=60) ?_;rw[av rfl (k74:E0.fn _=_) rfl];generalize List.map W.d l1=es1,List.map W.d l2=es2 at*;simp -implicitDefEqProofs[f74,n1,n2,hne]
theorem Yu (l1 l2:List Mo)(h1:Po l1)(h2:Po l2):Ca E0 73 [.d (PD l1),.d (PD l2),.d (.fn 71)] (.d (.v (.bool (iT Mo.eq l1 l2))),none) :=
 abY Mo.eq l1 l2 71 h1.2 h2.2 (fun x hx y hy=>Yt x y (h1.1 x hx) (h2.1 y hy))
theorem P9 (v w:W)(hv:v.OK)(hw:w.OK)(hp:match v,w with|.mk _ _ _ _ _ _ _ ps,.mk _ _ _ _ _ _ _ ps'=>∀ x ∈ ps,∀ y ∈ ps',Ca E0 34 [.d x.d,.d y.d] (.d (.v (.bool (x.eq y))),none)) :
  Ca E0 34 [.d v.d,.d w.d] (.d (.v (.bool (v.eq w))),none):=by
 cases hv with
 | @mk s a b c i u p ps ha hb la lb hpo lp h =>
  cases hw with
  | @mk s' a' b' c' i' u' p' ps' ha' hb' la' lb' TS lp' h' =>
   simp only at hp;obtain⟨Kq,_,t1,t2,t3⟩:=((BH s s' a b a' b' omK omK omK omK).j ((Yu p p' hpo TS).j ((LU W.eq ps ps' 34 omK omK hp).any))).at 0;generalize Kq=N at*;refine Ca.bO (n:=N+90) ?_;rw[av rfl (k34:E0.fn _=_) rfl];simp only[W.d,W.eq,W.gX,W.Gu];generalize (s==s'&&decide (a=a')&&decide (b=b'))=r1,iT Mo.eq p p'=r2,iT W.eq ps ps'=r3 at*;simp only[raw,LD]at*;generalize LL a=x1,LL b=x2 at*;generalize LL a'=x3,LL b'=x4 at*;simp only[PD]at*;generalize List.map Mo.d p=y1 at*;generalize List.map Mo.d p'=y2,List.map W.d ps=y3 at*;generalize List.map W.d ps'=y4 at*;cases r1
   ·simp -implicitDefEqProofs[f34,t1]
   ·cases h1:(c==c')
    ·simp -implicitDefEqProofs[f34,t1,h1]
    ·cases h2:(i==i')
     ·simp -implicitDefEqProofs[f34,t1,h1,h2]
     ·cases h3:(u==u')
      ·simp -implicitDefEqProofs[f34,t1,h1,h2,h3]
      ·cases r2
       ·simp -implicitDefEqProofs[f34,t1,h1,h2,h3,t2]
       ·simp -implicitDefEqProofs[f34,t1,h1,h2,h3,t2,t3]
theorem jF (v:W)(hv:v.OK):∀ w:W,w.OK->Ca E0 34 [.d v.d,.d w.d] (.d (.v (.bool (v.eq w))),none):=by
 induction hv with
 | @mk s a b c i u p ps ha hb la lb hpo lp h ih =>
  intro w hw;refine P9 _ w (.mk ha hb la lb hpo lp h) hw ?_;cases hw with
  | @mk s' a' b' c' i' u' p' ps' ha' hb' la' lb' TS lp' h' =>
   simp only;exact fun x hx y hy=>ih x hx y (h' y hy)
def psB:aG:=f40.body.r.r.l.r.bl.lp
def Xr (l1 l2:List Mo)(k:Nat)(t:FV):St:=(st0 [.d (PD l1),.d (PD l2),.u,.d (.v (.int .i64 k)),.u,t,.u] [])
def psF:St:=(st0 [.u,.u,.d (.v (.bool false)),.u,.u,.u,.u] [])
theorem TT (l1 l2:List Mo)(k:Nat)(m n:Mo)(h1:Po l1)(h2:Po l2)(hx:l1[k]?=some m)(hy:l2[k]?=some n) :
  Ex E0 psB (Xr l1 l2 k .u) (if m.eq n then(.norm,Xr l1 l2 (k+1) .u) else(.ret,psF)):=by
 have hkl:k<l1.length:=(bD hx)
 have o7:k<l2.length:=(bD hy)
 have hll:=h1.2;obtain⟨_,_,la,lb⟩:=h1.1 m (Qa2 hx);obtain⟨_,_,la',lb'⟩:=h2.1 n (Qa2 hy);obtain⟨N,t⟩:=(mK m.s n.s m.a m.b n.a n.b omK omK omK omK).get;have e1:(l1.map Mo.d)[k]?=some m.d:=by simp[hx]
 have e2:(l2.map Mo.d)[k]?=some n.d:=by simp[hy]
 have n1:(l1.map Mo.d).length=l1.length:=by simp
 have n2:(l2.map Mo.d).length=l2.length:=by simp
 have bz:ah .i64 ((k:Int)+1)=(k:Int)+1:=wrap_i64 omK;have hk1:((k+1:Nat):Int)=(k:Int)+1:=by omega
 have hk0:(0:Int)<=(k:Int):=by omega
 have he:decide (m.e=n.e)=(m.e.1==n.e.1&&(m.e.2.1==n.e.2.1&&m.e.2.2==n.e.2.2)):=by
  obtain⟨⟨x,y,z⟩,_,_,_⟩:=m;obtain⟨⟨x',y',z'⟩,_,_,_⟩:=n;simp only[Qm2,Bool.decide_and];rfl
 refine Ex.of (n:=N+300) ?_;unfold Xr psF Mo.eq;rw[hk1,he];generalize (m.s==n.s&&decide (m.a=n.a)&&decide (m.b=n.b))=r at*;obtain⟨⟨x,y,z⟩,s,a,b⟩:=m;obtain⟨⟨x',y',z'⟩,s',a',b'⟩:=n;simp only[Mo.d,raw,PD]at*;generalize LL a=x1,LL b=x2 at*;generalize LL a'=x3,LL b'=x4 at*;simp only[LD]at*;generalize List.map Mo.d l1=es1,List.map Mo.d l2=es2 at*;have i1:=idx e1;have i2:=idx e2
 by_cases q1:(x==x'&&(y==y'&&z==z'))=true
 ·have q1':=q1;simp only[Qb2]at q1';rw[q1];cases r
  ·simp -implicitDefEqProofs[psB,f40,dC,hkl,o7,hk0,e1,e2,i1,i2,n1,n2,q1'.1,q1'.2.1,q1'.2.2,t]
  ·simp -implicitDefEqProofs[psB,f40,dC,hkl,o7,hk0,e1,e2,i1,i2,n1,n2,q1'.1,q1'.2.1,q1'.2.2,t,bz]
 ·simp only[Xy2]at q1;rw[q1];cases g1:(x==x')<;>cases g2:(y==y')<;>cases g3:(z==z')<;>first
   | (rw[g1,g2,g3]at q1;cases q1;done)
   | simp -implicitDefEqProofs[psB,f40,dC,hkl,o7,hk0,e1,e2,i1,i2,n1,n2,g1,g2,g3]
theorem Yv (l1 l2:List Mo)(h1:Po l1)(h2:Po l2)(hl:l1.length=l2.length) :
  ∃ r,Ex E0 (.loop psB) (Xr l1 l2 0 .u) r/\((iT Mo.eq l1 l2=true/\r=(.exit 0,Xr l1 l2 l1.length (.d (.v (.bool false)))))\/(iT Mo.eq l1 l2=false/\r=(.ret,psF))):=by
 refine Ex.inv (S:=fun k:Nat=>Xr l1 l2 k .u) (fun k=>l1.length-k) (fun k=>k<=l1.length/\iT Mo.eq l1 l2=iT Mo.eq (l1.drop k) (l2.drop k)) _ ?_ 0 ⟨by simp,by simp⟩;rintro k ⟨q1,q2⟩
 by_cases hk:k<l1.length
 ·have hx:l1[k]?=some (l1[k]'hk):=Qa0 hk;have hy:l2[k]?=some (l2[k]'(by omega)):=Qa0 omK;have d1:l1.drop k=l1[k]'hk::l1.drop (k+1):=Qj0 hk;have d2:l2.drop k=l2[k]'(by omega)::l2.drop (k+1):=Qj0 omK;have hr:=TT l1 l2 k _ _ h1 h2 hx hy;rw[d1,d2]at q2;simp only[iT]at q2;cases hv:Mo.eq (l1[k]'hk) (l2[k]'(by omega))
  ·rw[hv]at hr q2;exact .inr ⟨_,hr,by simp,.inr ⟨by simpa using q2,rfl⟩⟩
  ·rw[hv]at hr q2;exact .inl ⟨k+1,hr,by omega,by omega,by simpa using q2⟩
 ·have he:k=l1.length:=by omega
  subst he;have n1:(l1.map Mo.d).length=l1.length:=by simp
  rw[Qt1,hl,Qt1]at q2;refine .inr ⟨_,Ex.of (n:=60) ?_,?_,.inl ⟨by rw[q2];rfl,rfl⟩⟩
  ·unfold Xr;simp only[PD];generalize List.map Mo.d l1=es1,List.map Mo.d l2=es2,l1.length=m at*;simp -implicitDefEqProofs[psB,f40,n1]
  ·simp
theorem TU (l1 l2:List Mo)(h1:Po l1)(h2:Po l2):Ca E0 40 [.d (PD l1),.d (PD l2)] (.d (.v (.bool (iT Mo.eq l1 l2))),none):=by
 have n1:(l1.map Mo.d).length=l1.length:=by simp
 have n2:(l2.map Mo.d).length=l2.length:=by simp
 by_cases hl:l1.length=l2.length
 ·obtain⟨r,hr,h⟩:=Yv l1 l2 h1 h2 hl;have hA:Ex E0 f40.body.l (st0 [.d (PD l1),.d (PD l2),.u,.u,.u,.u,.u] []) (.norm,(st0 [.d (PD l1),.d (PD l2),.u,.u,.u,.u,.u] [])):=by
   refine Ex.of (n:=40) ?_;generalize PD l1=p1,PD l2=p2 at*;simp -implicitDefEqProofs[f40]
  have hB:Ex E0 f40.body.r.l (st0 [.d (PD l1),.d (PD l2),.u,.u,.u,.u,.u] []) (.norm,(st0 [.d (PD l1),.d (PD l2),.u,.u,.d (.v (.bool false)),.u,.u] [])):=by
   refine Ex.of (n:=40) ?_;simp only[PD];generalize List.map Mo.d l1=es1,List.map Mo.d l2=es2 at*;simp -implicitDefEqProofs[f40,n1,n2,hl]
  have hC:Ex E0 f40.body.r.r.l.l (st0 [.d (PD l1),.d (PD l2),.u,.u,.d (.v (.bool false)),.u,.u] []) (.norm,Xr l1 l2 0 .u):=by
   refine Ex.of (n:=40) ?_;unfold Xr;generalize PD l1=p1,PD l2=p2 at*;simp -implicitDefEqProofs[f40]
  rcases h with ⟨hv,rfl⟩|⟨hv,rfl⟩
  ·rw[hv];refine Ca.body (o:=.ret) (st1:=(st0 [.u,.u,.d (.v (.bool true)),.u,.u,.u,.u] [])) rfl (k40:E0.fn _=_) rfl ?_ (by intro id h;cases h) ?_
   ·show Ex E0 (.seq f40.body.l (.seq f40.body.r.l (.seq (.seq f40.body.r.r.l.l (.block 0 (.loop psB))) f40.body.r.r.r))) _ _;refine hA.seq (hB.seq ((hC.seq hr.block).seq (Ex.of (n:=40) ?_)));unfold Xr;generalize PD l1=p1,PD l2=p2 at*;simp -implicitDefEqProofs[f40]
   ·simp -implicitDefEqProofs[f40]
  ·rw[hv];refine Ca.body (o:=.ret) (st1:=psF) rfl (k40:E0.fn _=_) rfl ?_ (by intro id h;cases h) ?_
   ·show Ex E0 (.seq f40.body.l (.seq f40.body.r.l (.seq (.seq f40.body.r.r.l.l (.block 0 (.loop psB))) f40.body.r.r.r))) _ _;exact hA.seq (hB.seq (hC.seq hr.b_).dG)
   ·simp -implicitDefEqProofs[f40,psF]
 ·have hf:iT Mo.eq l1 l2=false:=by
   cases h:iT Mo.eq l1 l2
   ·rfl
   ·exact absurd (j6 h) hl
  have hne:((l1.length:Int) != (l2.length:Int))=true:=by simp;omega
  rw[hf];refine Ca.bO (n:=60) ?_;rw[av rfl (k40:E0.fn _=_) rfl];simp only[PD];generalize List.map Mo.d l1=es1,List.map Mo.d l2=es2 at*;simp -implicitDefEqProofs[f40,n1,n2,hne]
def weB:aG:=f12.body.r.r.l.r.bl.lp
def Xt (c1 c2:List FV)(k:Nat)(t:FV):St:=(st0 [.u,.u,.r (.loc 0) 0,.r (.loc 1) 0,.u,.d (.v (.int .i64 k)),.u,t,.u] [.box c1,.box c2])
def weF (c1 c2:List FV):St:=(st0 [.u,.u,.u,.u,.d (.v (.bool false)),.u,.u,.u,.u] [.box c1,.box c2])
theorem TV (p1 p2 p3 p4 p5 p6 p7 q1 q2 q3 q4 q5 q6 q7:D)(l1 l2:List W)(k:Nat)(x y:W)(v:Bool)(h1:l1.length<=1000000)(hx:l1[k]?=some x)(hy:l2[k]?=some y)(hc:Ca E0 12 [.d x.d,.d y.d] (.d (.v (.bool v)),none)) :
  Ex E0 weB (Xt [.d p1,.d p2,.d p3,.d p4,.d p5,.d p6,.d p7,.d (.s 8 (l1.map W.d))] [.d q1,.d q2,.d q3,.d q4,.d q5,.d q6,.d q7,.d (.s 8 (l2.map W.d))] k .u)
   (if v then(.norm,Xt [.d p1,.d p2,.d p3,.d p4,.d p5,.d p6,.d p7,.d (.s 8 (l1.map W.d))] [.d q1,.d q2,.d q3,.d q4,.d q5,.d q6,.d q7,.d (.s 8 (l2.map W.d))] (k+1) .u)
    else(.ret,weF [.d p1,.d p2,.d p3,.d p4,.d p5,.d p6,.d p7,.d (.s 8 (l1.map W.d))] [.d q1,.d q2,.d q3,.d q4,.d q5,.d q6,.d q7,.d (.s 8 (l2.map W.d))])):=by
 have hkl:k<l1.length:=(bD hx)
 have o7:k<l2.length:=(bD hy)
 obtain⟨N,hf⟩:=hc.get;have e1:(l1.map W.d)[k]?=some x.d:=by simp[hx]
 have e2:(l2.map W.d)[k]?=some y.d:=by simp[hy]
 have n1:(l1.map W.d).length=l1.length:=by simp
 have n2:(l2.map W.d).length=l2.length:=by simp
 have bz:ah .i64 ((k:Int)+1)=(k:Int)+1:=wrap_i64 omK;have hk1:((k+1:Nat):Int)=(k:Int)+1:=by omega
 have hk0:(0:Int)<=(k:Int):=by omega
 refine Ex.of (n:=N+300) ?_;unfold Xt weF;rw[hk1];obtain⟨sx,ax,bx,cx,ix,ux,px,KZ⟩:=x;obtain⟨sy,ay,by2,cy,iy,uy,py,psy⟩:=y;simp only[W.d,PD]at*;generalize LL ax=x1,LL bx=x2,LL ay=x3,LL by2=x4,List.map Mo.d px=x5,List.map Mo.d py=x6,W.ds KZ=x7,W.ds psy=x8 at*;simp only[LD]at*;generalize List.map W.d l1=es1,List.map W.d l2=es2 at*;have i1:=idx e1;have i2:=idx e2;cases v
 ·simp -implicitDefEqProofs[weB,f12,hkl,o7,hk0,e1,e2,i1,i2,n1,n2,hf]
 ·simp -implicitDefEqProofs[weB,f12,hkl,o7,hk0,e1,e2,i1,i2,n1,n2,hf,bz]
theorem Yw (p1 p2 p3 p4 p5 p6 p7 q1 q2 q3 q4 q5 q6 q7:D)(l1 l2:List W)(h1:l1.length<=1000000)(hl:l1.length=l2.length)(hc:∀ x ∈ l1,∀ y ∈ l2,Ca E0 12 [.d x.d,.d y.d] (.d (.v (.bool (x.eq y))),none)) :
  ∃ r,Ex E0 (.loop weB) (Xt [.d p1,.d p2,.d p3,.d p4,.d p5,.d p6,.d p7,.d (.s 8 (l1.map W.d))] [.d q1,.d q2,.d q3,.d q4,.d q5,.d q6,.d q7,.d (.s 8 (l2.map W.d))] 0 .u) r /\
   ((iT W.eq l1 l2=true/\r=(.exit 0,Xt [.d p1,.d p2,.d p3,.d p4,.d p5,.d p6,.d p7,.d (.s 8 (l1.map W.d))] [.d q1,.d q2,.d q3,.d q4,.d q5,.d q6,.d q7,.d (.s 8 (l2.map W.d))] l1.length (.d (.v (.bool false))))) \/
    (iT W.eq l1 l2=false/\r=(.ret,weF [.d p1,.d p2,.d p3,.d p4,.d p5,.d p6,.d p7,.d (.s 8 (l1.map W.d))] [.d q1,.d q2,.d q3,.d q4,.d q5,.d q6,.d q7,.d (.s 8 (l2.map W.d))]))):=by
 refine Ex.inv (S:=fun k:Nat=>Xt [.d p1,.d p2,.d p3,.d p4,.d p5,.d p6,.d p7,.d (.s 8 (l1.map W.d))] [.d q1,.d q2,.d q3,.d q4,.d q5,.d q6,.d q7,.d (.s 8 (l2.map W.d))] k .u) (fun k=>l1.length-k) (fun k=>k<=l1.length/\iT W.eq l1 l2=iT W.eq (l1.drop k) (l2.drop k)) _ ?_ 0 ⟨by simp,by simp⟩;rintro k ⟨g1,g2⟩
 by_cases hk:k<l1.length
 ·have hx:l1[k]?=some (l1[k]'hk):=Qa0 hk;have hy:l2[k]?=some (l2[k]'(by omega)):=Qa0 omK;have d1:l1.drop k=l1[k]'hk::l1.drop (k+1):=Qj0 hk;have d2:l2.drop k=l2[k]'(by omega)::l2.drop (k+1):=Qj0 omK;have hr:=TV p1 p2 p3 p4 p5 p6 p7 q1 q2 q3 q4 q5 q6 q7 l1 l2 k _ _ _ h1 hx hy (hc _ (Qi2 hk) _ (Qi2 omK));rw[d1,d2]at g2;simp only[iT]at g2;cases hv:W.eq (l1[k]'hk) (l2[k]'(by omega))
  ·rw[hv]at hr g2;exact .inr ⟨_,hr,by simp,.inr ⟨by simpa using g2,rfl⟩⟩
  ·rw[hv]at hr g2;exact .inl ⟨k+1,hr,by omega,by omega,by simpa using g2⟩
 ·have he:k=l1.length:=by omega
  subst he;have n1:(l1.map W.d).length=l1.length:=by simp
  rw[Qt1,hl,Qt1]at g2;refine .inr ⟨_,Ex.of (n:=60) ?_,?_,.inl ⟨by rw[g2];rfl,rfl⟩⟩
  ·unfold Xt;generalize List.map W.d l1=es1,List.map W.d l2=es2,l1.length=m at*;simp -implicitDefEqProofs[weB,f12,n1]
  ·simp
set_option maxRecDepth 4000
theorem LV (v w:W)(hv:v.OK)(hw:w.OK)(hp:match v,w with|.mk _ _ _ _ _ _ _ ps,.mk _ _ _ _ _ _ _ ps'=>∀ x ∈ ps,∀ y ∈ ps',Ca E0 12 [.d x.d,.d y.d] (.d (.v (.bool (x.eq y))),none)) :
  Ca E0 12 [.d v.d,.d w.d] (.d (.v (.bool (v.eq w))),none):=by
 cases hv with
 | @mk s a b c i u p ps ha hb la lb hpo lp h =>
  cases hw with
  | @mk s' a' b' c' i' u' p' ps' ha' hb' la' lb' TS lp' h' =>
   simp only at hp;obtain⟨Kq,_,t1,t2⟩:=((mK s s' a b a' b' omK omK omK omK).j ((TU p p' hpo TS).any)).at 0;generalize Kq=N at*;have m1:(ps.map W.d).length=ps.length:=by simp
   have m2:(ps'.map W.d).length=ps'.length:=by simp
   simp only[W.d,W.eq,W.gX,W.Gu]
   by_cases hall:((s==s'&&decide (a=a')&&decide (b=b'))&&(c==c')&&(i==i')&&(u==u')&&iT Mo.eq p p'&&(ps.length==ps'.length))=true
   ·simp only[Qb2]at hall;obtain⟨⟨⟨⟨⟨r1,h1⟩,h2⟩,h3⟩,r2⟩,h4⟩:=hall;have hlen:ps.length=ps'.length:=by simpa using h4
    have r1':(s==s'&&decide (a=a')&&decide (b=b'))=true:=by simpa using r1
    rw[r1']at t1;rw[r2]at t2;rw[r1',h1,h2,h3,r2];simp only[Qs0];obtain⟨r,hr,hq⟩:=Yw (.v (.bool s)) (LD a) (LD b) (.v (.int .i64 c)) (.v (.bool i)) (.v (.int .u64 u)) (PD p) (.v (.bool s')) (LD a') (LD b') (.v (.int .i64 c')) (.v (.bool i')) (.v (.int .u64 u')) (PD p') ps ps' omK hlen hp;generalize iT W.eq ps ps'=res at*;simp only[raw,LD,PD]at*;generalize LL a=x1,LL b=x2 at*;generalize LL a'=x3,LL b'=x4,List.map Mo.d p=y1 at*;generalize List.map Mo.d p'=y2 at*;generalize hy3:List.map W.d ps=y3 at*;generalize hy4:List.map W.d ps'=y4 at*;have g1:(c != c')=false:=by simpa using h1
    have g2:(u != u')=false:=by simpa using h3
    have m3:y4.length=ps.length:=by omega
    have hA:Ex E0 f12.body.l (st0 [.d (.a [.v (.bool s),.s 1 x1,.s 1 x2,.v (.int .i64 c),.v (.bool i),.v (.int .u64 u),.s 6 y1,.s 8 y3]),.d (.a [.v (.bool s'),.s 1 x3,.s 1 x4,.v (.int .i64 c'),.v (.bool i'),.v (.int .u64 u'),.s 6 y2,.s 8 y4]),.u,.u,.u,.u,.u,.u,.u] [])
      (.norm,(st0 [.u,.u,.r (.loc 0) 0,.r (.loc 1) 0,.u,.u,.u,.u,.u] [.box [.d (.v (.bool s)),.d (.s 1 x1),.d (.s 1 x2),.d (.v (.int .i64 c)),.d (.v (.bool i)),.d (.v (.int .u64 u)),.d (.s 6 y1),.d (.s 8 y3)],.box [.d (.v (.bool s')),.d (.s 1 x3),.d (.s 1 x4),.d (.v (.int .i64 c')),.d (.v (.bool i')),.d (.v (.int .u64 u')),.d (.s 6 y2),.d (.s 8 y4)]])):=by
     refine Ex.of (n:=40) ?_;simp -implicitDefEqProofs[f12]
    have hB:Ex E0 f12.body.r.l (st0 [.u,.u,.r (.loc 0) 0,.r (.loc 1) 0,.u,.u,.u,.u,.u] [.box [.d (.v (.bool s)),.d (.s 1 x1),.d (.s 1 x2),.d (.v (.int .i64 c)),.d (.v (.bool i)),.d (.v (.int .u64 u)),.d (.s 6 y1),.d (.s 8 y3)],.box [.d (.v (.bool s')),.d (.s 1 x3),.d (.s 1 x4),.d (.v (.int .i64 c')),.d (.v (.bool i')),.d (.v (.int .u64 u')),.d (.s 6 y2),.d (.s 8 y4)]])
      (.norm,(st0 [.u,.u,.r (.loc 0) 0,.r (.loc 1) 0,.u,.u,.d (.v (.bool false)),.u,.u] [.box [.d (.v (.bool s)),.d (.s 1 x1),.d (.s 1 x2),.d (.v (.int .i64 c)),.d (.v (.bool i)),.d (.v (.int .u64 u)),.d (.s 6 y1),.d (.s 8 y3)],.box [.d (.v (.bool s')),.d (.s 1 x3),.d (.s 1 x4),.d (.v (.int .i64 c')),.d (.v (.bool i')),.d (.v (.int .u64 u')),.d (.s 6 y2),.d (.s 8 y4)]])):=by
     refine Ex.of (n:=N+90) ?_;simp -implicitDefEqProofs[f12,t1,t2,g1,g2,h2,m1,m3]
    have hC:Ex E0 f12.body.r.r.l.l (st0 [.u,.u,.r (.loc 0) 0,.r (.loc 1) 0,.u,.u,.d (.v (.bool false)),.u,.u] [.box [.d (.v (.bool s)),.d (.s 1 x1),.d (.s 1 x2),.d (.v (.int .i64 c)),.d (.v (.bool i)),.d (.v (.int .u64 u)),.d (.s 6 y1),.d (.s 8 y3)],.box [.d (.v (.bool s')),.d (.s 1 x3),.d (.s 1 x4),.d (.v (.int .i64 c')),.d (.v (.bool i')),.d (.v (.int .u64 u')),.d (.s 6 y2),.d (.s 8 y4)]])
      (.norm,Xt [.d (.v (.bool s)),.d (.s 1 x1),.d (.s 1 x2),.d (.v (.int .i64 c)),.d (.v (.bool i)),.d (.v (.int .u64 u)),.d (.s 6 y1),.d (.s 8 y3)] [.d (.v (.bool s')),.d (.s 1 x3),.d (.s 1 x4),.d (.v (.int .i64 c')),.d (.v (.bool i')),.d (.v (.int .u64 u')),.d (.s 6 y2),.d (.s 8 y4)] 0 .u):=by
     refine Ex.of (n:=40) ?_;unfold Xt;simp -implicitDefEqProofs[f12]
    rcases hq with ⟨rfl,rfl⟩|⟨rfl,rfl⟩
    ·refine Ca.body (o:=.ret) (st1:=(st0 [.u,.u,.u,.u,.d (.v (.bool true)),.u,.u,.u,.u] [.box [.d (.v (.bool s)),.d (.s 1 x1),.d (.s 1 x2),.d (.v (.int .i64 c)),.d (.v (.bool i)),.d (.v (.int .u64 u)),.d (.s 6 y1),.d (.s 8 y3)],.box [.d (.v (.bool s')),.d (.s 1 x3),.d (.s 1 x4),.d (.v (.int .i64 c')),.d (.v (.bool i')),.d (.v (.int .u64 u')),.d (.s 6 y2),.d (.s 8 y4)]])) rfl (k12:E0.fn _=_) rfl ?_ (by intro id h;cases h) ?_
     ·show Ex E0 (.seq f12.body.l (.seq f12.body.r.l (.seq (.seq f12.body.r.r.l.l (.block 0 (.loop weB))) f12.body.r.r.r))) _ _;refine hA.seq (hB.seq ((hC.seq hr.block).seq (Ex.of (n:=40) ?_)));unfold Xt;simp -implicitDefEqProofs[f12]
     ·simp -implicitDefEqProofs[f12]
    ·refine Ca.body (o:=.ret) (st1:=weF [.d (.v (.bool s)),.d (.s 1 x1),.d (.s 1 x2),.d (.v (.int .i64 c)),.d (.v (.bool i)),.d (.v (.int .u64 u)),.d (.s 6 y1),.d (.s 8 y3)] [.d (.v (.bool s')),.d (.s 1 x3),.d (.s 1 x4),.d (.v (.int .i64 c')),.d (.v (.bool i')),.d (.v (.int .u64 u')),.d (.s 6 y2),.d (.s 8 y4)]) rfl (k12:E0.fn _=_) rfl ?_ (by intro id h;cases h) ?_
     ·show Ex E0 (.seq f12.body.l (.seq f12.body.r.l (.seq (.seq f12.body.r.r.l.l (.block 0 (.loop weB))) f12.body.r.r.r))) _ _;exact hA.seq (hB.seq (hC.seq hr.b_).dG)
     ·simp -implicitDefEqProofs[f12,weF]
   ·have hres:((s==s'&&decide (a=a')&&decide (b=b'))&&(c==c')&&(i==i')&&(u==u')&&iT Mo.eq p p'&&iT W.eq ps ps')=false:=by
     rw[<-Xy2];intro hh;apply hall;simp only[Qb2]at hh ⊢;exact⟨hh.1,by simpa using j6 hh.2⟩
    rw[hres];have e1:(c != c') = !(c==c'):=rfl;have e3:(u != u') = !(u==u'):=rfl;have e4:((ps.length:Int) != (ps'.length:Int)) = !(ps.length==ps'.length):=by
     have hcast:∀ x y:Nat,((x:Int) != (y:Int)) = !(x==y):=by
      intro x y
      by_cases hh:x=y
      ·rw[hh];simp
      ·have h1:((x:Int) != (y:Int))=true:=bne_iff_ne.2 omK;have h2:(x==y)=false:=beq_eq_false_iff_ne.2 hh;rw[h1,h2];rfl
     exact hcast _ _
    clear hp hres;refine Ca.bO (n:=N+90) ?_;rw[av rfl (k12:E0.fn _=_) rfl];generalize (s==s'&&decide (a=a')&&decide (b=b'))=r1,iT Mo.eq p p'=r2,(ps.length==ps'.length)=b4 at*;simp only[raw,LD,PD]at*;generalize LL a=x1,LL b=x2 at*;generalize LL a'=x3,LL b'=x4,List.map Mo.d p=y1 at*;generalize List.map Mo.d p'=y2,List.map W.d ps=y3 at*;generalize List.map W.d ps'=y4 at*;cases r1
    ·simp -implicitDefEqProofs[f12,t1]
    ·cases h1:(c==c')
     ·rw[h1]at e1;simp -implicitDefEqProofs[f12,t1,e1]
     ·rw[h1]at e1;cases h2:(i==i')
      ·simp -implicitDefEqProofs[f12,t1,e1,h2]
      ·cases h3:(u==u')
       ·rw[h3]at e3;simp -implicitDefEqProofs[f12,t1,e1,h2,e3]
       ·rw[h3]at e3;cases r2
        ·simp -implicitDefEqProofs[f12,t1,e1,h2,e3,t2]
        ·cases b4
         ·simp -implicitDefEqProofs[f12,t1,e1,h2,e3,t2,m1,m2,e4]
         ·exact absurd (by rw[h1,h2,h3];rfl) hall
theorem yE (v:W)(hv:v.OK):∀ w:W,w.OK->Ca E0 12 [.d v.d,.d w.d] (.d (.v (.bool (v.eq w))),none):=by
 induction hv with
 | @mk s a b c i u p ps ha hb la lb hpo lp h ih =>
  intro w hw;refine LV _ w (.mk ha hb la lb hpo lp h) hw ?_;cases hw with
  | @mk s' a' b' c' i' u' p' ps' ha' hb' la' lb' TS lp' h' =>
   simp only;exact fun x hx y hy=>ih x hx y (h' y hy)
end Fi.S
