import Derived.Test.YthojoinggmjklaaGreatDoorCC
set_option linter.unusedVariables false
set_option linter.unusedSimpArgs false
noncomputable section
namespace Fi.S
open Go Fi
set_option maxHeartbeats 8000000
def kH (e:Int × Int × Int):D:=.a [.v (.int .i64 e.1),.v (.int .i64 e.2.1),.v (.int .i64 e.2.2)]
def Uw (x:Int):Prop:=-9223372036854775808<=x/\x<9223372036854775808
noncomputable def FU (e:Int × Int × Int):Int:=ak .i64 (ak .i64 (ak .i64 (0+e.1)+e.2.1)+e.2.2)
theorem zy (n:Nat)(e:Int × Int × Int):CL E0 (n+100) 254 [.d (kH e)] []=some (.d (.v (.int .i64 (FU e))),none):=by
 rw[aA rfl (k254:E0.fn _=_) rfl];obtain⟨a,b,c⟩:=e;simp only[kH,FU];have w1:ak .i64 1=1:=wrap_i64 (by omega);have w2:ak .i64 2=2:=wrap_i64 (by omega);have w3:ak .i64 3=3:=wrap_i64 (by omega);simp -implicitDefEqProofs[f254,aG,w1,w2,w3]
def ek (x y:Int):Int:=if x<y then -1 else if y<x then 1 else 0
theorem mP (n:Nat)(x y:Int):CL E0 (n+60) 255 [.d (.v (.int .i64 x)),.d (.v (.int .i64 y))] []=some (.d (.v (.int .i64 (ek x y))),none):=by
 have II:∀ m z,CL E0 (m+20) 282 [.d (.v (.int .i64 z))] []=some (.d (.v (.bool false)),none):=by
  intro m z;rw[aA rfl (k282:E0.fn _=_) rfl];simp -implicitDefEqProofs[f282]
 rw[aA rfl (k255:E0.fn _=_) rfl];unfold ek
 by_cases h1:x<y
 ·simp -implicitDefEqProofs[f255,II,h1]
 ·by_cases h2:y<x
  ·simp -implicitDefEqProofs[f255,II,h1,h2]
  ·simp -implicitDefEqProofs[f255,II,h1,h2]
def gW (d e:Int × Int × Int):Int :=
 if ek e.1 d.1≠0 then ek e.1 d.1 else if ek e.2.1 d.2.1≠0 then ek e.2.1 d.2.1 else ek e.2.2 d.2.2
theorem IJ (n:Nat)(d e:Int × Int × Int):CL E0 (n+200) 204 [.d (kH d),.d (kH e)] []=some (.d (.v (.int .i64 (gW d e))),none):=by
 obtain⟨a,b,c⟩:=d;obtain⟨a',b',c'⟩:=e;have c1:=fun m=>mP m a' a
 have c2:=fun m=>mP m b' b
 have c3:=fun m=>mP m c' c
 rw[aA rfl (k204:E0.fn _=_) rfl];simp only[kH,gW];have w1:ak .i64 1=1:=wrap_i64 (by omega);have w2:ak .i64 2=2:=wrap_i64 (by omega);have w3:ak .i64 3=3:=wrap_i64 (by omega);generalize ek a' a=x,ek b' b=y,ek c' c=z at*
 by_cases h1:x=0
 ·subst h1
  by_cases h2:y=0
  ·subst h2
   by_cases h3:z=0
   ·subst h3;simp -implicitDefEqProofs[f204,aG,w1,w2,w3,c1,c2,c3]
   ·have e3:(z != 0)=true:=by simpa using h3
    simp -implicitDefEqProofs[f204,aG,w1,w2,c1,c2,c3,e3]
  ·have e2:(y != 0)=true:=by simpa using h2
   simp -implicitDefEqProofs[f204,aG,w1,c1,c2,e2,h2]
 ·have e1:(x != 0)=true:=by simpa using h1
  simp -implicitDefEqProofs[f204,aG,c1,e1,h1]
structure Mo where
 e:Int × Int × Int
 s:Bool
 a:List Nat
 b:List Nat
def Mo.d (m:Mo):D:=.a [.v (.int .i64 m.e.1),.v (.int .i64 m.e.2.1),.v (.int .i64 m.e.2.2),.v (.bool m.s),LD m.a,LD m.b]
def Mo.ok (m:Mo):Prop:=bK m.a/\bK m.b/\m.a.length<=1000/\m.b.length<=1000
def kC (x:Int):Bool := !(decide (x<0)||decide (5<x))
def eF (e:Int × Int × Int):Bool:=kC e.1&&kC e.2.1&&kC e.2.2&&decide (e.1+e.2.1+e.2.2<=5)
def Mo.fits (m:Mo):Bool:=eF m.e&&(df m.s m.a m.b&&decide (m.a≠[]))
theorem zz {e:Int × Int × Int}(h1:kC e.1=true)(h2:kC e.2.1=true)(h3:kC e.2.2=true):FU e=e.1+e.2.1+e.2.2:=by
 simp only[kC,Bool.not_eq_true',Bool.or_eq_false_iff,decide_eq_false_iff_not]at h1 h2 h3;unfold FU;rw[wrap_i64 (z:=0+e.1) (by omega),wrap_i64 (z:=0+e.1+e.2.1) (by omega),wrap_i64 (by omega)];omega
theorem Ux (m:Mo)(hm:m.ok):Ca E0 203 [.d m.d] (.d (.v (.bool m.fits)),none):=by
 obtain⟨e,s,a,b⟩:=m;obtain⟨ha,hb,la,lb⟩:=hm;simp only at ha hb la lb;obtain⟨k1,t1⟩:=(vW s a b (by omega) (by omega) ha hb).any;have w1:ak .i64 1=1:=wrap_i64 (by omega);have w2:ak .i64 2=2:=wrap_i64 (by omega);have w3:ak .i64 3=3:=wrap_i64 (by omega);have hdg:=fun n=>zy n e
 obtain⟨x,y,z⟩:=e;simp only[Mo.d,Mo.fits,eF,kH]at*;have ex:∀ u:Int,(kC u=true/\¬ u<0/\¬ 5<u)\/(kC u=false/\u<0)\/(kC u=false/\¬ u<0/\5<u):=by
  intro u;unfold kC
  by_cases h1:u<0
  ·simp[h1]
  ·by_cases h2:5<u
   ·simp[h1,h2]
   ·simp[h1,h2]
 rcases ex x with ⟨q1,a1,a2⟩|⟨q1,a1⟩|⟨q1,a1,a2⟩
 ·rcases ex y with ⟨q2,b1,b2⟩|⟨q2,b1⟩|⟨q2,b1,b2⟩
  ·rcases ex z with ⟨q3,c1,c2⟩|⟨q3,c1⟩|⟨q3,c1,c2⟩
   ·rw[zz q1 q2 q3]at hdg;rw[q1,q2,q3];simp only[Bool.true_and]
    by_cases hd:x+y+z<=5
    ·rw[decide_eq_true hd];cases hv:df s a b
     ·rw[hv]at t1;replace t1:=t1 k1 (by omega);refine Ca.bO (n:=k1+200) ?_;rw[aA rfl (k203:E0.fn _=_) rfl];simp only[raw,LD]at*;generalize LL a=as',LL b=bs',x+y+z=deg at*;simp -implicitDefEqProofs[f203,aG,w1,w2,w3,a1,a2,b1,b2,c1,c2,hdg,hd,t1]
     ·rw[hv]at t1;have hq:=mO ha hb hv;have hz:=kZ ha hb 1000 la lb (by omega) hv;obtain⟨k2,t2⟩:=(uq (bJ s a b) (by omega)).any;rw[<-hq]at t2;have hsg:((bJ s a b).num.sign != 0)=decide (a≠[]):=by
       have e1:qn (bJ s a b)=a:=by
        have:=hq;simp only[raw,qD,D.a.injEq,List.cons.injEq,LD,D.s.injEq,true_and]at this;have h3:=this.2.1;have h4:LL a=LL (qn (bJ s a b)):=h3;rw[FP,FP]at h4;have h5:(a.map fun(x:Nat)=>(x:Int))=((qn (bJ s a b)).map fun(x:Nat)=>(x:Int)):=by
         unfold LK at h4;exact(List.map_inj_right (fun p q hpq=>by simpa using hpq)).1 h4
        exact(nA.1 h5).symm
       have e2:a=[]↔(bJ s a b).num=0:=by
        have h6:qn (bJ s a b)=[]↔(bJ s a b).num=0:=by unfold qn;rw[dD,Int.natAbs_eq_zero]
        rwa [e1]at h6
       by_cases h0:(bJ s a b).num=0
       ·have h1:¬ (a≠[]):=fun h=>h (e2.2 h0)
        rw[decide_eq_false h1,h0];rfl
       ·have h1:¬ a=[]:=fun h=>h0 (e2.1 h)
        have h2:(bJ s a b).num.sign≠0:=fun h=>h0 (Int.sign_eq_zero_iff_zero.1 h)
        simp[h1,h2]
      replace t1:=t1 (k1+k2) (by omega);replace t2:=t2 (k1+k2) (by omega);rw[<-hsg];generalize k1+k2=N at*;clear hq;generalize (bJ s a b).num.sign=sg at*;refine Ca.bO (n:=N+200) ?_;rw[aA rfl (k203:E0.fn _=_) rfl];simp only[raw,LD]at*;generalize LL a=as',LL b=bs',x+y+z=deg at*;simp -implicitDefEqProofs[f203,aG,w1,w2,w3,a1,a2,b1,b2,c1,c2,hdg,hd,t1,t2]
    ·rw[decide_eq_false hd];refine Ca.bO (n:=300) ?_;rw[aA rfl (k203:E0.fn _=_) rfl];simp only[LD]at*;generalize LL a=as',LL b=bs',x+y+z=deg at*;simp -implicitDefEqProofs[f203,aG,w1,w2,w3,a1,a2,b1,b2,c1,c2,hdg,hd]
   ·rw[q3];refine Ca.bO (n:=300) ?_;rw[aA rfl (k203:E0.fn _=_) rfl];simp only[LD]at*;simp -implicitDefEqProofs[f203,aG,w1,w2,a1,a2,b1,b2,c1]
   ·rw[q3];refine Ca.bO (n:=300) ?_;rw[aA rfl (k203:E0.fn _=_) rfl];simp only[LD]at*;simp -implicitDefEqProofs[f203,aG,w1,w2,a1,a2,b1,b2,c1,c2]
  ·rw[q2];refine Ca.bO (n:=300) ?_;rw[aA rfl (k203:E0.fn _=_) rfl];simp only[LD]at*;simp -implicitDefEqProofs[f203,aG,w1,a1,a2,b1]
  ·rw[q2];refine Ca.bO (n:=300) ?_;rw[aA rfl (k203:E0.fn _=_) rfl];simp only[LD]at*;simp -implicitDefEqProofs[f203,aG,w1,a1,a2,b1,b2]
 ·rw[q1];refine Ca.bO (n:=300) ?_;rw[aA rfl (k203:E0.fn _=_) rfl];simp only[LD]at*;simp -implicitDefEqProofs[f203,aG,a1]
 ·rw[q1];refine Ca.bO (n:=300) ?_;rw[aA rfl (k203:E0.fn _=_) rfl];simp only[LD]at*;simp -implicitDefEqProofs[f203,aG,a1,a2]
def PD (l:List Mo):D:=.s 6 (l.map Mo.d)
def ui:Option Mo->List Mo->Bool
 | _,[]=>true
 | none,m::r=>m.fits&&ui (some m) r
 | some q,m::r=>m.fits&&decide (gW q.e m.e<0)&&ui (some m) r
def o_:Option Mo->Mo->Bool
 | none,_=>true
 | some q,m=>decide (gW q.e m.e<0)
def Po (l:List Mo):Prop:=(∀ m ∈ l,m.ok)/\l.length<=1000000
def Uy:aD:=f150.body.r.l.r.bl.lp
def Tc (l:List Mo)(k:Nat)(bs:List ae)(t:FV):St:=(st0 [.d (PD l),.u,.u,.u,.d (PD l),.d (.v (.int .i64 l.length)),.d (.v (.int .i64 k)),t,.u] bs)
def pvF (bs:List ae):St:=(st0 [.u,.d (.v (.bool false)),.u,.u,.u,.u,.u,.u,.u] bs)
theorem jN {α:Type}{bs:List α}{k:Nat}{o:α}(h:bs.length=k):(bs++[o])[k]?=some o:=by subst h;simp
theorem jO {α:Type}{bs:List α}{k:Nat}{o o':α}(h:bs.length=k):(bs++[o]).set k o'=bs++[o']:=by subst h;simp
theorem Pv (l:List Mo)(k:Nat)(bs:List ae)(m:Mo)(hl:Po l)(hk:l[k]?=some m)(hb:bs.length=k) :
  ∃ bs',bs'.length=k+1/\Ex E0 Uy (Tc l k bs .u) (if m.fits&&o_ (if k=0 then none else l[k-1]?) m then(.norm,Tc l (k+1) bs' .u) else(.ret,pvF bs')):=by
 have aef:=hl.1 m (List.mem_of_getElem? hk);have hkl:k<l.length:=(aT hk)
 have hll:=hl.2;obtain⟨N,hf⟩:=(Ux m aef).get;have hes:(l.map Mo.d)[k]?=some m.d:=by simp[hk]
 have hlen:(l.map Mo.d).length=l.length:=by simp
 have aR:ak .i64 ((k:Int)+1)=(k:Int)+1:=wrap_i64 (by omega);have hk1:((k+1:Nat):Int)=(k:Int)+1:=by omega
 have hk0:(0:Int)<=(k:Int):=by omega
 have hg:=fun(o:ae)=>jN (o:=o) hb
 have hs:=fun(o o':ae)=>jO (o:=o) (o':=o') hb
 refine⟨bs++[.box (m.d.cells.map .d)],by simp[hb],Ex.of (n:=N+300) ?_⟩;unfold Tc pvF;rw[hk1];simp only[PD];cases hfit:m.fits
 ·rw[hfit]at hf;obtain⟨e,s,a,b⟩:=m;simp only[Mo.d]at*;generalize LL a=x1,LL b=x2 at*;simp only[LD]at*;generalize List.map Mo.d l=es at*;have i1:=idx hes;simp -implicitDefEqProofs[Uy,f150,hkl,hk0,hes,i1,hlen,hb,hg,hs,hf]
 ·rw[hfit]at hf
  by_cases hz:k=0
  ·subst hz;rw[if_pos rfl];simp only[o_];obtain⟨e,s,a,b⟩:=m;simp only[Mo.d]at*;generalize LL a=x1,LL b=x2 at*;simp only[LD]at*;generalize List.map Mo.d l=es at*;have i1:=idx hes;have w1:ak .i64 1=1:=wrap_i64 (by omega);simp -implicitDefEqProofs[Uy,f150,hkl,hes,i1,hlen,hb,hg,hs,hf,w1]
  ·rw[if_neg hz];obtain⟨q,hq⟩:∃ q,l[k-1]?=some q:=⟨l[k-1]'(by omega),List.getElem?_eq_getElem (by omega)⟩
   rw[hq];have Pw:(l.map Mo.d)[k-1]?=some q.d:=by simp[hq]
   have IK:=fun n=>IJ n q.e m.e
   have hdec:ak .i64 ((k:Int)-1)=((k-1:Nat):Int):=by rw[wrap_i64 (by omega)];omega
   have hkp:(0:Int)<(k:Int):=by omega
   have Px:0<k:=by omega
   have Py:k-1<l.length:=by omega
   have hd:decide (gW q.e m.e<0) = !decide (0<=gW q.e m.e):=by rw[<-decide_not];simp only[Int.not_le]
   simp only[o_,hd];obtain⟨e,s,a,b⟩:=m;obtain⟨e',s',a',b'⟩:=q;simp only[Mo.d,kH]at*;generalize gW e' e=og,LL a=x1,LL b=x2 at*;generalize LL a'=x3,LL b'=x4 at*;simp only[LD]at*;generalize List.map Mo.d l=es at*;have i1:=idx hes;have i2:=idx Pw;generalize k-1=k' at*
   by_cases hog:0<=og
   ·simp -implicitDefEqProofs[Uy,f150,hkl,hk0,Px,hes,i1,Pw,i2,hlen,hb,hg,hs,hf,IK,hdec,Py,hog]
   ·simp -implicitDefEqProofs[Uy,f150,hkl,hk0,Px,hes,i1,Pw,i2,hlen,hb,hg,hs,hf,IK,hdec,Py,hog,aR]
theorem FW (l:List Mo)(k:Nat)(m:Mo)(hk:l[k]?=some m) :
  ui (if k=0 then none else l[k-1]?) (l.drop k)=(m.fits&&o_ (if k=0 then none else l[k-1]?) m&&ui (some m) (l.drop (k+1))):=by
 have hkl:=(aT hk)
 have hd:l.drop k=m::l.drop (k+1):=by
  rw[List.drop_eq_getElem_cons hkl];rw[List.getElem?_eq_getElem hkl]at hk;rw[Option.some.inj hk]
 rw[hd];cases (if k=0 then none else l[k-1]?) with
 | none=>simp[ui,o_]
 | some q=>simp[ui,o_]
theorem Uz (l:List Mo)(hl:Po l) :
  ∃ r,Ex E0 (.loop Uy) (Tc l 0 [] .u) r/\((ui none l=true/\∃ bs,r=(.exit 0,Tc l l.length bs (.d (.v (.bool false)))))\/(ui none l=false/\∃ bs,r=(.ret,pvF bs))):=by
 refine Ex.inv (S:=fun t:Nat × List ae=>Tc l t.1 t.2 .u) (fun t=>l.length-t.1) (fun t=>t.1<=l.length/\t.2.length=t.1/\ui none l=ui (if t.1=0 then none else l[t.1-1]?) (l.drop t.1)) _ ?_ (0,[]) ⟨by simp,rfl,by simp⟩;rintro⟨k,bs⟩ ⟨h1,h2,h3⟩;simp only at h1 h2 h3
 by_cases hk:k<l.length
 ·have hm:l[k]?=some (l[k]'hk):=List.getElem?_eq_getElem hk;generalize l[k]'hk=m at hm;obtain⟨bs',hb',hr⟩:=Pv l k bs m hl hm h2;rw[FW l k m hm]at h3;cases hc:(m.fits&&o_ (if k=0 then none else l[k-1]?) m)
  ·rw[hc]at hr h3;exact .inr ⟨_,hr,by simp,.inr ⟨by simpa using h3,bs',rfl⟩⟩
  ·rw[hc]at hr h3;refine .inl ⟨(k+1,bs'),hr,by simp only;omega,by simp only;omega,hb',?_⟩;rw[h3,if_neg (by simp),Bool.true_and];simp only[Nat.add_sub_cancel,hm]
 ·have he:k=l.length:=by omega
  subst he;rw[List.drop_length]at h3;refine .inr ⟨_,Ex.of (n:=60) ?_,?_,.inl ⟨?_,bs,rfl⟩⟩
  ·unfold Tc;generalize PD l=p at*;simp -implicitDefEqProofs[Uy,f150]
  ·simp
  ·rw[h3];cases (if l.length=0 then none else l[l.length-1]?)<;>simp[ui]
theorem Cg (l:List Mo)(hl:Po l):Ca E0 150 [.d (PD l)] (.d (.v (.bool (ui none l))),none):=by
 obtain⟨r,hr,h⟩:=Uz l hl;have hlen:(l.map Mo.d).length=l.length:=by simp
 have hA:Ex E0 f150.body.l (st0 [.d (PD l),.u,.u,.u,.u,.u,.u,.u,.u] []) (.norm,(st0 [.d (PD l),.u,.u,.u,.u,.u,.u,.u,.u] [])):=by
  refine Ex.of (n:=40) ?_;generalize PD l=p at*;simp -implicitDefEqProofs[f150]
 have hB:Ex E0 f150.body.r.l.l (st0 [.d (PD l),.u,.u,.u,.u,.u,.u,.u,.u] []) (.norm,Tc l 0 [] .u):=by
  refine Ex.of (n:=40) ?_;unfold Tc;simp only[PD];generalize List.map Mo.d l=es at*;simp -implicitDefEqProofs[f150,hlen]
 rcases h with ⟨hv,bs,rfl⟩|⟨hv,bs,rfl⟩
 ·rw[hv];refine Ca.body (o:=.ret) (st1:=(st0 [.u,.d (.v (.bool true)),.u,.u,.u,.u,.u,.u,.u] bs)) rfl (k150:E0.fn _=_) rfl ?_ (by intro id h;cases h) ?_
  ·show Ex E0 (.seq f150.body.l (.seq (.seq f150.body.r.l.l (.block 0 (.loop Uy))) f150.body.r.r)) _ _;refine hA.seq ((hB.seq hr.block).seq (Ex.of (n:=40) ?_));unfold Tc;generalize PD l=p at*;simp -implicitDefEqProofs[f150]
  ·simp -implicitDefEqProofs[f150]
 ·rw[hv];refine Ca.body (o:=.ret) (st1:=pvF bs) rfl (k150:E0.fn _=_) rfl ?_ (by intro id h;cases h) ?_
  ·show Ex E0 (.seq f150.body.l (.seq (.seq f150.body.r.l.l (.block 0 (.loop Uy))) f150.body.r.r)) _ _;exact hA.seq (hB.seq hr.bf).bD
  ·simp -implicitDefEqProofs[f150,pvF]
theorem pE (u:Int):(kC u=true/\¬ u<0/\¬ 5<u/\0<=u/\u<=5)\/(kC u=false/\u<0)\/(kC u=false/\¬ u<0/\5<u):=by
 unfold kC
 by_cases h1:u<0
 ·simp[h1]
 ·by_cases h2:5<u
  ·simp[h1,h2]
  ·refine .inl ⟨by simp[h1,h2],h1,h2,by omega,by omega⟩
theorem nC (n:Nat)(e:Int × Int × Int):CL E0 (n+300) 167 [.d (kH e)] []=some (.d (.v (.bool (eF e))),none):=by
 rw[aA rfl (k167:E0.fn _=_) rfl];obtain⟨x,y,z⟩:=e;simp only[kH,eF];have w1:ak .i64 1=1:=wrap_i64 (by omega);have w2:ak .i64 2=2:=wrap_i64 (by omega);have w3:ak .i64 3=3:=wrap_i64 (by omega);rcases pE x with ⟨q1,a1,a2,a3,a4⟩|⟨q1,a1⟩|⟨q1,a1,a2⟩
 ·have u1:ak .i64 x=x:=wrap_i64 (by omega);rcases pE y with ⟨q2,b1,b2,b3,b4⟩|⟨q2,b1⟩|⟨q2,b1,b2⟩
  ·have u2:ak .i64 (x+y)=x+y:=wrap_i64 (by omega);rcases pE z with ⟨q3,c1,c2,c3,c4⟩|⟨q3,c1⟩|⟨q3,c1,c2⟩
   ·have u3:ak .i64 (x+y+z)=x+y+z:=wrap_i64 (by omega);rw[q1,q2,q3];simp -implicitDefEqProofs[f167,aG,w1,w2,w3,a1,a2,b1,b2,c1,c2,u1,u2,u3]
   ·rw[q3];simp -implicitDefEqProofs[f167,aG,w1,w2,a1,a2,b1,b2,c1,u1,u2]
   ·rw[q3];simp -implicitDefEqProofs[f167,aG,w1,w2,a1,a2,b1,b2,c1,c2,u1,u2]
  ·rw[q2];simp -implicitDefEqProofs[f167,aG,w1,a1,a2,b1,u1]
  ·rw[q2];simp -implicitDefEqProofs[f167,aG,w1,a1,a2,b1,b2,u1]
 ·rw[q1];simp -implicitDefEqProofs[f167,aG,a1]
 ·rw[q1];simp -implicitDefEqProofs[f167,aG,a1,a2]
theorem jr (n:Nat)(d e:Int × Int × Int):CL E0 (n+200) 168 [.d (kH e),.d (kH d)] []=some (.d (.v (.int .i64 (gW d e))),none):=by
 rw[aA rfl (k168:E0.fn _=_) rfl];obtain⟨a,b,c⟩:=d;obtain⟨a',b',c'⟩:=e;simp only[kH,gW,ek];have w1:ak .i64 1=1:=wrap_i64 (by omega);have w2:ak .i64 2=2:=wrap_i64 (by omega);have w3:ak .i64 3=3:=wrap_i64 (by omega);rcases Int.lt_trichotomy a' a with h|h|h
 ·have e1:(a' != a)=true:=by simp;omega
  simp -implicitDefEqProofs[f168,aG,h,e1]
 ·subst h;rcases Int.lt_trichotomy b' b with h|h|h
  ·have e1:(b' != b)=true:=by simp;omega
   simp -implicitDefEqProofs[f168,aG,w1,h,e1]
  ·subst h;rcases Int.lt_trichotomy c' c with h|h|h
   ·have e1:(c' != c)=true:=by simp;omega
    simp -implicitDefEqProofs[f168,aG,w1,w2,h,e1]
   ·subst h;simp -implicitDefEqProofs[f168,aG,w1,w2,w3]
   ·have e1:(c' != c)=true:=by simp;omega
    have e2:¬ c'<c:=by omega
    simp -implicitDefEqProofs[f168,aG,w1,w2,h,e1,e2]
  ·have e1:(b' != b)=true:=by simp;omega
   have e2:¬ b'<b:=by omega
   simp -implicitDefEqProofs[f168,aG,w1,h,e1,e2]
 ·have e1:(a' != a)=true:=by simp;omega
  have e2:¬ a'<a:=by omega
  simp -implicitDefEqProofs[f168,aG,h,e1,e2]
def Pz:aD:=f99.body.r.l.r.bl.lp
def Td (l:List Mo)(k:Nat)(t:FV):St:=(st0 [.d (PD l),.u,.d (.v (.int .i64 k)),t,.u] [])
def qvF:St:=(st0 [.u,.d (.v (.bool false)),.u,.u,.u] [])
theorem PE (l:List Mo)(k:Nat)(m:Mo)(hl:Po l)(hk:l[k]?=some m) :
  Ex E0 Pz (Td l k .u) (if m.fits&&o_ (if k=0 then none else l[k-1]?) m then(.norm,Td l (k+1) .u) else(.ret,qvF)):=by
 obtain⟨ha,hb,la,lb⟩:=hl.1 m (List.mem_of_getElem? hk);have hkl:k<l.length:=(aT hk)
 have hll:=hl.2;have hp:=fun n=>nC n m.e
 obtain⟨N,hv⟩:=(qP m.s m.a m.b (by omega) (by omega) ha hb).any;have hes:(l.map Mo.d)[k]?=some m.d:=by simp[hk]
 have hlen:(l.map Mo.d).length=l.length:=by simp
 have aR:ak .i64 ((k:Int)+1)=(k:Int)+1:=wrap_i64 (by omega);have hk1:((k+1:Nat):Int)=(k:Int)+1:=by omega
 have hk0:(0:Int)<=(k:Int):=by omega
 unfold Td qvF;rw[hk1];simp only[PD];cases h1:eF m.e
 ·have e1:m.fits=false:=by simp[Mo.fits,h1]
  rw[e1];rw[h1]at hp;refine Ex.of (n:=400) ?_;obtain⟨e,s,a,b⟩:=m;simp only[Mo.d,kH]at*;generalize LL a=x1,LL b=x2 at*;simp only[LD]at*;generalize List.map Mo.d l=es at*;have i1:=idx hes;simp -implicitDefEqProofs[Pz,f99,hkl,hk0,i1,hlen,hp]
 ·rw[h1]at hp;cases h2:df m.s m.a m.b
  ·have e1:m.fits=false:=by simp[Mo.fits,h2]
   rw[e1];rw[h2]at hv;replace hv:=hv N (by omega);refine Ex.of (n:=N+400) ?_;obtain⟨e,s,a,b⟩:=m;simp only[Mo.d,kH,raw]at*;generalize LL a=x1,LL b=x2 at*;simp only[LD]at*;generalize List.map Mo.d l=es at*;have i1:=idx hes;simp -implicitDefEqProofs[Pz,f99,hkl,hk0,i1,hlen,hp,hv]
  ·rw[h2]at hv;have hq:=mO ha hb h2;have hz:=kZ ha hb 1000 la lb (by omega) h2;obtain⟨N2,hs⟩:=(lh (bJ m.s m.a m.b) (by omega)).any;rw[<-hq]at hs;have hsg:((bJ m.s m.a m.b).num.sign==0)=decide (m.a=[]):=by
    have e1:qn (bJ m.s m.a m.b)=m.a:=by
     have:=hq;simp only[raw,qD,D.a.injEq,List.cons.injEq,LD,D.s.injEq,true_and]at this;have h4:LL m.a=LL (qn (bJ m.s m.a m.b)):=this.2.1;rw[FP,FP]at h4;have h5:(m.a.map fun(x:Nat)=>(x:Int))=((qn (bJ m.s m.a m.b)).map fun(x:Nat)=>(x:Int)):=by
      unfold LK at h4;exact(List.map_inj_right (fun p q hpq=>by simpa using hpq)).1 h4
     exact(nA.1 h5).symm
    have e2:m.a=[]↔(bJ m.s m.a m.b).num=0:=by
     have h6:qn (bJ m.s m.a m.b)=[]↔(bJ m.s m.a m.b).num=0:=by unfold qn;rw[dD,Int.natAbs_eq_zero]
     rwa [e1]at h6
    by_cases h0:(bJ m.s m.a m.b).num=0
    ·rw[decide_eq_true (e2.2 h0),h0];rfl
    ·have h1:¬ m.a=[]:=fun h=>h0 (e2.1 h)
     have h2:(bJ m.s m.a m.b).num.sign≠0:=fun h=>h0 (Int.sign_eq_zero_iff_zero.1 h)
     rw[decide_eq_false h1];simpa using h2
   replace hv:=hv (N+N2) (by omega);replace hs:=hs (N+N2) (by omega);generalize N+N2=M at*;clear hq hz;generalize (bJ m.s m.a m.b).num.sign=sg at*
   by_cases h3:m.a=[]
   ·have e1:m.fits=false:=by simp[Mo.fits,h3]
    rw[e1];rw[decide_eq_true h3]at hsg;refine Ex.of (n:=M+400) ?_;obtain⟨e,s,a,b⟩:=m;simp only[Mo.d,kH,raw]at*;generalize LL a=x1,LL b=x2 at*;simp only[LD]at*;generalize List.map Mo.d l=es at*;have i1:=idx hes;simp -implicitDefEqProofs[Pz,f99,hkl,hk0,i1,hlen,hp,hv,hs,hsg]
   ·have e1:m.fits=true:=by simp[Mo.fits,h1,h2,h3]
    rw[e1];rw[decide_eq_false h3]at hsg
    by_cases abm:k=0
    ·subst abm;rw[if_pos rfl];simp only[o_];have w1:ak .i64 1=1:=wrap_i64 (by omega);refine Ex.of (n:=M+400) ?_;obtain⟨e,s,a,b⟩:=m;simp only[Mo.d,kH,raw]at*;generalize LL a=x1,LL b=x2 at*;simp only[LD]at*;generalize List.map Mo.d l=es at*;have i1:=idx hes;simp -implicitDefEqProofs[Pz,f99,hkl,i1,hlen,hp,hv,hs,hsg,w1]
    ·rw[if_neg abm];obtain⟨q,hq⟩:∃ q,l[k-1]?=some q:=⟨l[k-1]'(by omega),List.getElem?_eq_getElem (by omega)⟩
     rw[hq];have Pw:(l.map Mo.d)[k-1]?=some q.d:=by simp[hq]
     have IK:=fun n=>jr n q.e m.e
     have hdec:ak .i64 ((k:Int)-1)=((k-1:Nat):Int):=by rw[wrap_i64 (by omega)];omega
     have Px:0<k:=by omega
     have Py:k-1<l.length:=by omega
     have hd:decide (gW q.e m.e<0) = !decide (0<=gW q.e m.e):=by rw[<-decide_not];simp only[Int.not_le]
     simp only[o_,hd];refine Ex.of (n:=M+400) ?_;obtain⟨e,s,a,b⟩:=m;obtain⟨e',s',a',b'⟩:=q;simp only[Mo.d,kH,raw]at*;generalize gW e' e=og,LL a=x1,LL b=x2 at*;generalize LL a'=x3,LL b'=x4 at*;simp only[LD]at*;generalize List.map Mo.d l=es at*;have i1:=idx hes;have i2:=idx Pw;generalize k-1=k' at*
     by_cases hog:0<=og
     ·simp -implicitDefEqProofs[Pz,f99,hkl,hk0,Px,i1,i2,hlen,hp,hv,hs,hsg,IK,hdec,Py,hog]
     ·simp -implicitDefEqProofs[Pz,f99,hkl,hk0,Px,i1,i2,hlen,hp,hv,hs,hsg,IK,hdec,Py,hog,aR]
theorem UA (l:List Mo)(hl:Po l) :
  ∃ r,Ex E0 (.loop Pz) (Td l 0 .u) r/\((ui none l=true/\r=(.exit 0,Td l l.length (.d (.v (.bool false)))))\/(ui none l=false/\r=(.ret,qvF))):=by
 refine Ex.inv (S:=fun k:Nat=>Td l k .u) (fun k=>l.length-k) (fun k=>k<=l.length/\ui none l=ui (if k=0 then none else l[k-1]?) (l.drop k)) _ ?_ 0 ⟨by simp,by simp⟩;rintro k ⟨h1,h3⟩
 by_cases hk:k<l.length
 ·have hm:l[k]?=some (l[k]'hk):=List.getElem?_eq_getElem hk;generalize l[k]'hk=m at hm;have hr:=PE l k m hl hm;rw[FW l k m hm]at h3;cases hc:(m.fits&&o_ (if k=0 then none else l[k-1]?) m)
  ·rw[hc]at hr h3;exact .inr ⟨_,hr,by simp,.inr ⟨by simpa using h3,rfl⟩⟩
  ·rw[hc]at hr h3;refine .inl ⟨k+1,hr,by omega,by omega,?_⟩;rw[h3,if_neg (by simp),Bool.true_and];simp only[Nat.add_sub_cancel,hm]
 ·have he:k=l.length:=by omega
  subst he;have hlen:(l.map Mo.d).length=l.length:=by simp
  rw[List.drop_length]at h3;refine .inr ⟨_,Ex.of (n:=60) ?_,?_,.inl ⟨?_,rfl⟩⟩
  ·unfold Td;simp only[PD];generalize List.map Mo.d l=es at*;simp -implicitDefEqProofs[Pz,f99,hlen]
  ·simp
  ·rw[h3];cases (if l.length=0 then none else l[l.length-1]?)<;>simp[ui]
theorem Ch (l:List Mo)(hl:Po l):Ca E0 99 [.d (PD l)] (.d (.v (.bool (ui none l))),none):=by
 obtain⟨r,hr,h⟩:=UA l hl;have hA:Ex E0 f99.body.l (st0 [.d (PD l),.u,.u,.u,.u] []) (.norm,(st0 [.d (PD l),.u,.u,.u,.u] [])):=by
  refine Ex.of (n:=40) ?_;generalize PD l=p at*;simp -implicitDefEqProofs[f99]
 have hB:Ex E0 f99.body.r.l.l (st0 [.d (PD l),.u,.u,.u,.u] []) (.norm,Td l 0 .u):=by
  refine Ex.of (n:=40) ?_;unfold Td;generalize PD l=p at*;simp -implicitDefEqProofs[f99]
 rcases h with ⟨hv,rfl⟩|⟨hv,rfl⟩
 ·rw[hv];refine Ca.body (o:=.ret) (st1:=(st0 [.u,.d (.v (.bool true)),.u,.u,.u] [])) rfl (k99:E0.fn _=_) rfl ?_ (by intro id h;cases h) ?_
  ·show Ex E0 (.seq f99.body.l (.seq (.seq f99.body.r.l.l (.block 0 (.loop Pz))) f99.body.r.r)) _ _;refine hA.seq ((hB.seq hr.block).seq (Ex.of (n:=40) ?_));unfold Td;generalize PD l=p at*;simp -implicitDefEqProofs[f99]
  ·simp -implicitDefEqProofs[f99]
 ·rw[hv];refine Ca.body (o:=.ret) (st1:=qvF) rfl (k99:E0.fn _=_) rfl ?_ (by intro id h;cases h) ?_
  ·show Ex E0 (.seq f99.body.l (.seq (.seq f99.body.r.l.l (.block 0 (.loop Pz))) f99.body.r.r)) _ _;exact hA.seq (hB.seq hr.bf).bD
  ·simp -implicitDefEqProofs[f99,qvF]
def iB {α:Type}(eq:α->α->Bool):List α->List α->Bool
 | [],[]=>true
 | x::r,y::s=>eq x y&&iB eq r s
 | _,_=>false
theorem jv {α:Type}{eq:α->α->Bool}:∀ {a b:List α},iB eq a b=true->a.length=b.length
 | [],[],_=>rfl
 | x::r,y::s,h=>by
  simp only[iB,Bool.and_eq_true]at h;simp[jv h.2]
 | [],_::_,h=>by simp[iB]at h
 | _::_,[],h=>by simp[iB]at h
def Mo.eq (m n:Mo):Bool:=decide (m.e=n.e)&&(m.s==n.s&&decide (m.a=n.a)&&decide (m.b=n.b))
theorem UB (m n:Mo)(hm:m.ok)(hn:n.ok):Ca E0 71 [.d m.d,.d n.d] (.d (.v (.bool (m.eq n))),none):=by
 obtain⟨_,_,la,lb⟩:=hm;obtain⟨_,_,la',lb'⟩:=hn;obtain⟨N,t⟩:=(zt m.s n.s m.a m.b n.a n.b (by omega) (by omega) (by omega) (by omega)).get;have he:decide (m.e=n.e)=(m.e.1==n.e.1&&(m.e.2.1==n.e.2.1&&m.e.2.2==n.e.2.2)):=by
  obtain⟨⟨x,y,z⟩,_,_,_⟩:=m;obtain⟨⟨x',y',z'⟩,_,_,_⟩:=n;simp only[Prod.mk.injEq,Bool.decide_and];rfl
 refine Ca.bO (n:=N+60) ?_;rw[aA rfl (k71:E0.fn _=_) rfl];unfold Mo.eq;rw[he];generalize (m.s==n.s&&decide (m.a=n.a)&&decide (m.b=n.b))=r at*;obtain⟨⟨x,y,z⟩,s,a,b⟩:=m;obtain⟨⟨x',y',z'⟩,s',a',b'⟩:=n;simp only[Mo.d,raw,LD]at*;generalize LL a=x1,LL b=x2 at*;generalize LL a'=x3,LL b'=x4 at*;cases h1:(x==x')<;>cases h2:(y==y')<;>cases h3:(z==z')<;>simp -implicitDefEqProofs[f71,cB,h1,h2,h3,t]
def IL:aD:=f73.body.r.r.l.r.bl.lp
def Bv (l1 l2:List Mo)(g k:Nat)(bs:List ae)(t:FV):St:=(st0 [.u,.d (.s 6 (l2.map Mo.d)),.d (.fn g),.u,.u,.u,.u,.u,.d (.s 6 (l1.map Mo.d)),.d (.v (.int .i64 l1.length)),.d (.v (.int .i64 k)),t,.u] bs)
def PG (bs:List ae):St:=(st0 [.u,.u,.u,.d (.v (.bool false)),.u,.u,.u,.u,.u,.u,.u,.u,.u] bs)
theorem LX (l1 l2:List Mo)(g k:Nat)(bs:List ae)(x y:Mo)(v:Bool)(h1:l1.length<=1000000)(hx:l1[k]?=some x)(hy:l2[k]?=some y)(hc:Ca E0 g [.d x.d,.d y.d] (.d (.v (.bool v)),none)) :
  ∃ bs',Ex E0 IL (Bv l1 l2 g k bs .u) (if v then(.norm,Bv l1 l2 g (k+1) bs' .u) else(.ret,PG bs')):=by
 have hkl:k<l1.length:=(aT hx)
 have lV:k<l2.length:=(aT hy)
 obtain⟨N,hf⟩:=hc.get;have e1:(l1.map Mo.d)[k]?=some x.d:=by simp[hx]
 have e2:(l2.map Mo.d)[k]?=some y.d:=by simp[hy]
 have n1:(l1.map Mo.d).length=l1.length:=by simp
 have n2:(l2.map Mo.d).length=l2.length:=by simp
 have aR:ak .i64 ((k:Int)+1)=(k:Int)+1:=wrap_i64 (by omega);have hk1:((k+1:Nat):Int)=(k:Int)+1:=by omega
 have hk0:(0:Int)<=(k:Int):=by omega
 obtain⟨B,hB⟩:∃ B,bs.length=B:=⟨_,rfl⟩
 have hg:=fun(o:ae)=>jN (o:=o) hB
 have hs:=fun(o o':ae)=>jO (o:=o) (o':=o') hB
 have hg2:=fun(o o2:ae)=>jN (bs:=bs++[o]) (o:=o2) (k:=B+1) (by simp[hB])
 have hs2:=fun(o o2 o':ae)=>jO (bs:=bs++[o]) (o:=o2) (o':=o') (k:=B+1) (by simp[hB])
 have hg3:∀ (o o2:ae),(bs++[o]++[o2])[B]?=some o:=fun o o2=>by rw[List.append_assoc,List.getElem?_append_right (by omega),hB];simp
 simp only[List.append_assoc,List.cons_append,List.nil_append]at hg2 hs2 hg3;refine⟨bs++[.box (x.d.cells.map .d)]++[.box (y.d.cells.map .d)],Ex.of (n:=N+300) ?_⟩;unfold Bv PG;rw[hk1];obtain⟨ex,sx,ax,bx⟩:=x;obtain⟨ey,sy,ay,by2⟩:=y;simp only[Mo.d]at*;generalize LL ax=x1,LL bx=x2,LL ay=x3,LL by2=x4 at*;simp only[LD]at*;generalize List.map Mo.d l1=es1,List.map Mo.d l2=es2 at*;have i1:=idx e1;have i2:=idx e2;cases v
 ·simp -implicitDefEqProofs[IL,f73,hkl,lV,hk0,e1,e2,i1,i2,n1,n2,hB,hg,hs,hg2,hs2,hg3,hf]
 ·simp -implicitDefEqProofs[IL,f73,hkl,lV,hk0,e1,e2,i1,i2,n1,n2,hB,hg,hs,hg2,hs2,hg3,hf,aR]
theorem PH (eq:Mo->Mo->Bool)(l1 l2:List Mo)(g:Nat)(h1:l1.length<=1000000)(hl:l1.length=l2.length)(hc:∀ x ∈ l1,∀ y ∈ l2,Ca E0 g [.d x.d,.d y.d] (.d (.v (.bool (eq x y))),none)) :
  ∃ r,Ex E0 (.loop IL) (Bv l1 l2 g 0 [] .u) r/\((iB eq l1 l2=true/\∃ bs,r=(.exit 0,Bv l1 l2 g l1.length bs (.d (.v (.bool false)))))\/(iB eq l1 l2=false/\∃ bs,r=(.ret,PG bs))):=by
 refine Ex.inv (S:=fun t:Nat × List ae=>Bv l1 l2 g t.1 t.2 .u) (fun t=>l1.length-t.1) (fun t=>t.1<=l1.length/\iB eq l1 l2=iB eq (l1.drop t.1) (l2.drop t.1)) _ ?_ (0,[]) ⟨by simp,by simp⟩;rintro⟨k,bs⟩ ⟨q1,q2⟩;simp only at q1 q2
 by_cases hk:k<l1.length
 ·have hx:l1[k]?=some (l1[k]'hk):=List.getElem?_eq_getElem hk;have hy:l2[k]?=some (l2[k]'(by omega)):=List.getElem?_eq_getElem (by omega);have d1:l1.drop k=l1[k]'hk::l1.drop (k+1):=List.drop_eq_getElem_cons hk;have d2:l2.drop k=l2[k]'(by omega)::l2.drop (k+1):=List.drop_eq_getElem_cons (by omega);obtain⟨bs',hr⟩:=LX l1 l2 g k bs _ _ _ h1 hx hy (hc _ (List.getElem_mem hk) _ (List.getElem_mem (by omega)));rw[d1,d2]at q2;simp only[iB]at q2;cases hv:eq (l1[k]'hk) (l2[k]'(by omega))
  ·rw[hv]at hr q2;exact .inr ⟨_,hr,by simp,.inr ⟨by simpa using q2,bs',rfl⟩⟩
  ·rw[hv]at hr q2;exact .inl ⟨(k+1,bs'),hr,by simp only;omega,by simp only;omega,by simpa using q2⟩
 ·have he:k=l1.length:=by omega
  subst he;rw[List.drop_length,hl,List.drop_length]at q2;refine .inr ⟨_,Ex.of (n:=60) ?_,?_,.inl ⟨by rw[q2];rfl,bs,rfl⟩⟩
  ·unfold Bv;generalize List.map Mo.d l1=es1,List.map Mo.d l2=es2,l1.length=m at*;simp -implicitDefEqProofs[IL,f73]
  ·simp
theorem Yk (eq:Mo->Mo->Bool)(l1 l2:List Mo)(g:Nat)(h1:l1.length<=1000000)(h2:l2.length<=1000000)(hc:∀ x ∈ l1,∀ y ∈ l2,Ca E0 g [.d x.d,.d y.d] (.d (.v (.bool (eq x y))),none)) :
  Ca E0 73 [.d (.s 6 (l1.map Mo.d)),.d (.s 6 (l2.map Mo.d)),.d (.fn g)] (.d (.v (.bool (iB eq l1 l2))),none):=by
 have n1:(l1.map Mo.d).length=l1.length:=by simp
 have n2:(l2.map Mo.d).length=l2.length:=by simp
 have hA:Ex E0 f73.body.l (st0 [.d (.s 6 (l1.map Mo.d)),.d (.s 6 (l2.map Mo.d)),.d (.fn g),.u,.u,.u,.u,.u,.u,.u,.u,.u,.u] []) (.norm,(st0 [.d (.s 6 (l1.map Mo.d)),.d (.s 6 (l2.map Mo.d)),.d (.fn g),.u,.u,.u,.u,.u,.u,.u,.u,.u,.u] [])):=by
  refine Ex.of (n:=40) ?_;generalize List.map Mo.d l1=es1,List.map Mo.d l2=es2 at*;simp -implicitDefEqProofs[f73]
 by_cases hl:l1.length=l2.length
 ·obtain⟨r,hr,h⟩:=PH eq l1 l2 g h1 hl hc;have hB:Ex E0 f73.body.r.l (st0 [.d (.s 6 (l1.map Mo.d)),.d (.s 6 (l2.map Mo.d)),.d (.fn g),.u,.u,.u,.u,.u,.u,.u,.u,.u,.u] []) (.norm,(st0 [.d (.s 6 (l1.map Mo.d)),.d (.s 6 (l2.map Mo.d)),.d (.fn g),.u,.u,.u,.u,.d (.v (.bool false)),.u,.u,.u,.u,.u] [])):=by
   refine Ex.of (n:=40) ?_;generalize List.map Mo.d l1=es1,List.map Mo.d l2=es2 at*;simp -implicitDefEqProofs[f73,n1,n2,hl]
  have hC:Ex E0 f73.body.r.r.l.l (st0 [.d (.s 6 (l1.map Mo.d)),.d (.s 6 (l2.map Mo.d)),.d (.fn g),.u,.u,.u,.u,.d (.v (.bool false)),.u,.u,.u,.u,.u] []) (.norm,Bv l1 l2 g 0 [] .u):=by
   refine Ex.of (n:=40) ?_;unfold Bv;generalize List.map Mo.d l1=es1,List.map Mo.d l2=es2 at*;simp -implicitDefEqProofs[f73,n1]
  rcases h with ⟨hv,bs,rfl⟩|⟨hv,bs,rfl⟩
  ·rw[hv];refine Ca.body (o:=.ret) (st1:=(st0 [.u,.u,.u,.d (.v (.bool true)),.u,.u,.u,.u,.u,.u,.u,.u,.u] bs)) rfl (k73:E0.fn _=_) rfl ?_ (by intro id h;cases h) ?_
   ·show Ex E0 (.seq f73.body.l (.seq f73.body.r.l (.seq (.seq f73.body.r.r.l.l (.block 0 (.loop IL))) f73.body.r.r.r))) _ _;refine hA.seq (hB.seq ((hC.seq hr.block).seq (Ex.of (n:=40) ?_)));unfold Bv;generalize List.map Mo.d l1=es1,List.map Mo.d l2=es2 at*;simp -implicitDefEqProofs[f73]
   ·simp -implicitDefEqProofs[f73]
  ·rw[hv];refine Ca.body (o:=.ret) (st1:=PG bs) rfl (k73:E0.fn _=_) rfl ?_ (by intro id h;cases h) ?_
   ·show Ex E0 (.seq f73.body.l (.seq f73.body.r.l (.seq (.seq f73.body.r.r.l.l (.block 0 (.loop IL))) f73.body.r.r.r))) _ _;exact hA.seq (hB.seq (hC.seq hr.bf).bD)
   ·simp -implicitDefEqProofs[f73,PG]
 ·have hf:iB eq l1 l2=false:=by
   cases h:iB eq l1 l2
   ·rfl
   ·exact absurd (jv h) hl
  have hne:((l1.length:Int) != (l2.length:Int))=true:=by simp;omega
  rw[hf];refine Ca.bO (n:=60) ?_;rw[aA rfl (k73:E0.fn _=_) rfl];generalize List.map Mo.d l1=es1,List.map Mo.d l2=es2 at*;simp -implicitDefEqProofs[f73,n1,n2,hne]
inductive W where
 | mk (s:Bool) (a b:List Nat) (c:Int) (i:Bool) (u:Int) (p:List Mo) (ps:List W)
mutual
def W.d:W->D
 | .mk s a b c i u p ps=>.a [.v (.bool s),LD a,LD b,.v (.int .i64 c),.v (.bool i),.v (.int .u64 u),PD p,.s 8 (W.ds ps)]
def W.ds:List W->List D
 | []=>[]
 | w::r=>w.d::W.ds r
end
theorem W.fA:∀ l:List W,W.ds l=l.map W.d
 | []=>rfl
 | w::r=>by simp[W.ds,W.fA r]
mutual
def W.eq:W->W->Bool
 | .mk s a b c i u p ps,.mk s' a' b' c' i' u' p' ps'=>(s==s'&&decide (a=a')&&decide (b=b'))&&(c==c')&&(i==i')&&(u==u')&&iB Mo.eq p p'&&W.eqs ps ps'
def W.eqs:List W->List W->Bool
 | [],[]=>true
 | x::r,y::s=>x.eq y&&W.eqs r s
 | _,_=>false
end
theorem W.DZ:∀ l m:List W,W.eqs l m=iB W.eq l m
 | [],[]=>rfl
 | x::r,y::s=>by simp[W.eqs,iB,W.DZ r s]
 | [],_::_=>rfl
 | _::_,[]=>rfl
inductive W.OK:W->Prop
 | mk {s:Bool} {a b:List Nat} {c:Int} {i:Bool} {u:Int} {p:List Mo} {ps:List W} (ha:bK a) (hb:bK b) (la:a.length<=1000) (lb:b.length<=1000) (hp:Po p) (lp:ps.length<=1000) (h:∀ w ∈ ps,W.OK w):W.OK (.mk s a b c i u p ps)
def IM:aD:=f74.body.r.r.l.r.bl.lp
def Bw (l1 l2:List W)(g k:Nat)(bs:List ae)(t:FV):St:=(st0 [.u,.d (.s 8 (l2.map W.d)),.d (.fn g),.u,.u,.u,.u,.u,.d (.s 8 (l1.map W.d)),.d (.v (.int .i64 l1.length)),.d (.v (.int .i64 k)),t,.u] bs)
def PI (bs:List ae):St:=(st0 [.u,.u,.u,.d (.v (.bool false)),.u,.u,.u,.u,.u,.u,.u,.u,.u] bs)
theorem LY (l1 l2:List W)(g k:Nat)(bs:List ae)(x y:W)(v:Bool)(h1:l1.length<=1000000)(hx:l1[k]?=some x)(hy:l2[k]?=some y)(hc:Ca E0 g [.d x.d,.d y.d] (.d (.v (.bool v)),none)) :
  ∃ bs',Ex E0 IM (Bw l1 l2 g k bs .u) (if v then(.norm,Bw l1 l2 g (k+1) bs' .u) else(.ret,PI bs')):=by
 have hkl:k<l1.length:=(aT hx)
 have lV:k<l2.length:=(aT hy)
 obtain⟨N,hf⟩:=hc.get;have e1:(l1.map W.d)[k]?=some x.d:=by simp[hx]
 have e2:(l2.map W.d)[k]?=some y.d:=by simp[hy]
 have n1:(l1.map W.d).length=l1.length:=by simp
 have n2:(l2.map W.d).length=l2.length:=by simp
 have aR:ak .i64 ((k:Int)+1)=(k:Int)+1:=wrap_i64 (by omega);have hk1:((k+1:Nat):Int)=(k:Int)+1:=by omega
 have hk0:(0:Int)<=(k:Int):=by omega
 obtain⟨B,hB⟩:∃ B,bs.length=B:=⟨_,rfl⟩
 have hg:=fun(o:ae)=>jN (o:=o) hB
 have hs:=fun(o o':ae)=>jO (o:=o) (o':=o') hB
 have hg2:=fun(o o2:ae)=>jN (bs:=bs++[o]) (o:=o2) (k:=B+1) (by simp[hB])
 have hs2:=fun(o o2 o':ae)=>jO (bs:=bs++[o]) (o:=o2) (o':=o') (k:=B+1) (by simp[hB])
 have hg3:∀ (o o2:ae),(bs++[o]++[o2])[B]?=some o:=fun o o2=>by rw[List.append_assoc,List.getElem?_append_right (by omega),hB];simp
 simp only[List.append_assoc,List.cons_append,List.nil_append]at hg2 hs2 hg3;refine⟨bs++[.box (x.d.cells.map .d)]++[.box (y.d.cells.map .d)],Ex.of (n:=N+300) ?_⟩;unfold Bw PI;rw[hk1];obtain⟨sx,ax,bx,cx,ix,ux,px,Ci⟩:=x;obtain⟨sy,ay,by2,cy,iy,uy,py,psy⟩:=y;simp only[W.d,PD]at*;generalize LL ax=x1,LL bx=x2,LL ay=x3,LL by2=x4,List.map Mo.d px=x5,List.map Mo.d py=x6,W.ds Ci=x7,W.ds psy=x8 at*;simp only[LD]at*;generalize List.map W.d l1=es1,List.map W.d l2=es2 at*;have i1:=idx e1;have i2:=idx e2;cases v
 ·simp -implicitDefEqProofs[IM,f74,hkl,lV,hk0,e1,e2,i1,i2,n1,n2,hB,hg,hs,hg2,hs2,hg3,hf]
 ·simp -implicitDefEqProofs[IM,f74,hkl,lV,hk0,e1,e2,i1,i2,n1,n2,hB,hg,hs,hg2,hs2,hg3,hf,aR]
theorem PK (eq:W->W->Bool)(l1 l2:List W)(g:Nat)(h1:l1.length<=1000000)(hl:l1.length=l2.length)(hc:∀ x ∈ l1,∀ y ∈ l2,Ca E0 g [.d x.d,.d y.d] (.d (.v (.bool (eq x y))),none)) :
  ∃ r,Ex E0 (.loop IM) (Bw l1 l2 g 0 [] .u) r/\((iB eq l1 l2=true/\∃ bs,r=(.exit 0,Bw l1 l2 g l1.length bs (.d (.v (.bool false)))))\/(iB eq l1 l2=false/\∃ bs,r=(.ret,PI bs))):=by
 refine Ex.inv (S:=fun t:Nat × List ae=>Bw l1 l2 g t.1 t.2 .u) (fun t=>l1.length-t.1) (fun t=>t.1<=l1.length/\iB eq l1 l2=iB eq (l1.drop t.1) (l2.drop t.1)) _ ?_ (0,[]) ⟨by simp,by simp⟩;rintro⟨k,bs⟩ ⟨q1,q2⟩;simp only at q1 q2
 by_cases hk:k<l1.length
 ·have hx:l1[k]?=some (l1[k]'hk):=List.getElem?_eq_getElem hk;have hy:l2[k]?=some (l2[k]'(by omega)):=List.getElem?_eq_getElem (by omega);have d1:l1.drop k=l1[k]'hk::l1.drop (k+1):=List.drop_eq_getElem_cons hk;have d2:l2.drop k=l2[k]'(by omega)::l2.drop (k+1):=List.drop_eq_getElem_cons (by omega);obtain⟨bs',hr⟩:=LY l1 l2 g k bs _ _ _ h1 hx hy (hc _ (List.getElem_mem hk) _ (List.getElem_mem (by omega)));rw[d1,d2]at q2;simp only[iB]at q2;cases hv:eq (l1[k]'hk) (l2[k]'(by omega))
  ·rw[hv]at hr q2;exact .inr ⟨_,hr,by simp,.inr ⟨by simpa using q2,bs',rfl⟩⟩
  ·rw[hv]at hr q2;exact .inl ⟨(k+1,bs'),hr,by simp only;omega,by simp only;omega,by simpa using q2⟩
 ·have he:k=l1.length:=by omega
  subst he;rw[List.drop_length,hl,List.drop_length]at q2;refine .inr ⟨_,Ex.of (n:=60) ?_,?_,.inl ⟨by rw[q2];rfl,bs,rfl⟩⟩
  ·unfold Bw;generalize List.map W.d l1=es1,List.map W.d l2=es2,l1.length=m at*;simp -implicitDefEqProofs[IM,f74]
  ·simp
theorem IP (eq:W->W->Bool)(l1 l2:List W)(g:Nat)(h1:l1.length<=1000000)(h2:l2.length<=1000000)(hc:∀ x ∈ l1,∀ y ∈ l2,Ca E0 g [.d x.d,.d y.d] (.d (.v (.bool (eq x y))),none)) :
  Ca E0 74 [.d (.s 8 (l1.map W.d)),.d (.s 8 (l2.map W.d)),.d (.fn g)] (.d (.v (.bool (iB eq l1 l2))),none):=by
 have n1:(l1.map W.d).length=l1.length:=by simp
 have n2:(l2.map W.d).length=l2.length:=by simp
 have hA:Ex E0 f74.body.l (st0 [.d (.s 8 (l1.map W.d)),.d (.s 8 (l2.map W.d)),.d (.fn g),.u,.u,.u,.u,.u,.u,.u,.u,.u,.u] []) (.norm,(st0 [.d (.s 8 (l1.map W.d)),.d (.s 8 (l2.map W.d)),.d (.fn g),.u,.u,.u,.u,.u,.u,.u,.u,.u,.u] [])):=by
  refine Ex.of (n:=40) ?_;generalize List.map W.d l1=es1,List.map W.d l2=es2 at*;simp -implicitDefEqProofs[f74]
 by_cases hl:l1.length=l2.length
 ·obtain⟨r,hr,h⟩:=PK eq l1 l2 g h1 hl hc;have hB:Ex E0 f74.body.r.l (st0 [.d (.s 8 (l1.map W.d)),.d (.s 8 (l2.map W.d)),.d (.fn g),.u,.u,.u,.u,.u,.u,.u,.u,.u,.u] []) (.norm,(st0 [.d (.s 8 (l1.map W.d)),.d (.s 8 (l2.map W.d)),.d (.fn g),.u,.u,.u,.u,.d (.v (.bool false)),.u,.u,.u,.u,.u] [])):=by
   refine Ex.of (n:=40) ?_;generalize List.map W.d l1=es1,List.map W.d l2=es2 at*;simp -implicitDefEqProofs[f74,n1,n2,hl]
  have hC:Ex E0 f74.body.r.r.l.l (st0 [.d (.s 8 (l1.map W.d)),.d (.s 8 (l2.map W.d)),.d (.fn g),.u,.u,.u,.u,.d (.v (.bool false)),.u,.u,.u,.u,.u] []) (.norm,Bw l1 l2 g 0 [] .u):=by
   refine Ex.of (n:=40) ?_;unfold Bw;generalize List.map W.d l1=es1,List.map W.d l2=es2 at*;simp -implicitDefEqProofs[f74,n1]
  rcases h with ⟨hv,bs,rfl⟩|⟨hv,bs,rfl⟩
  ·rw[hv];refine Ca.body (o:=.ret) (st1:=(st0 [.u,.u,.u,.d (.v (.bool true)),.u,.u,.u,.u,.u,.u,.u,.u,.u] bs)) rfl (k74:E0.fn _=_) rfl ?_ (by intro id h;cases h) ?_
   ·show Ex E0 (.seq f74.body.l (.seq f74.body.r.l (.seq (.seq f74.body.r.r.l.l (.block 0 (.loop IM))) f74.body.r.r.r))) _ _;refine hA.seq (hB.seq ((hC.seq hr.block).seq (Ex.of (n:=40) ?_)));unfold Bw;generalize List.map W.d l1=es1,List.map W.d l2=es2 at*;simp -implicitDefEqProofs[f74]
   ·simp -implicitDefEqProofs[f74]
  ·rw[hv];refine Ca.body (o:=.ret) (st1:=PI bs) rfl (k74:E0.fn _=_) rfl ?_ (by intro id h;cases h) ?_
   ·show Ex E0 (.seq f74.body.l (.seq f74.body.r.l (.seq (.seq f74.body.r.r.l.l (.block 0 (.loop IM))) f74.body.r.r.r))) _ _;exact hA.seq (hB.seq (hC.seq hr.bf).bD)
   ·simp -implicitDefEqProofs[f74,PI]
 ·have hf:iB eq l1 l2=false:=by
   cases h:iB eq l1 l2
   ·rfl
   ·exact absurd (jv h) hl
  have hne:((l1.length:Int) != (l2.length:Int))=true:=by simp;omega
  rw[hf];refine Ca.bO (n:=60) ?_;rw[aA rfl (k74:E0.fn _=_) rfl];generalize List.map W.d l1=es1,List.map W.d l2=es2 at*;simp -implicitDefEqProofs[f74,n1,n2,hne]
theorem UC (l1 l2:List Mo)(h1:Po l1)(h2:Po l2):Ca E0 73 [.d (PD l1),.d (PD l2),.d (.fn 71)] (.d (.v (.bool (iB Mo.eq l1 l2))),none) :=
 Yk Mo.eq l1 l2 71 h1.2 h2.2 (fun x hx y hy=>UB x y (h1.1 x hx) (h2.1 y hy))
theorem LZ (v w:W)(hv:v.OK)(hw:w.OK)(hp:match v,w with|.mk _ _ _ _ _ _ _ ps,.mk _ _ _ _ _ _ _ ps'=>∀ x ∈ ps,∀ y ∈ ps',Ca E0 34 [.d x.d,.d y.d] (.d (.v (.bool (x.eq y))),none)) :
  Ca E0 34 [.d v.d,.d w.d] (.d (.v (.bool (v.eq w))),none):=by
 cases hv with
 | @mk s a b c i u p ps ha hb la lb hpo lp h =>
  cases hw with
  | @mk s' a' b' c' i' u' p' ps' ha' hb' la' lb' PL lp' h' =>
   simp only at hp;obtain⟨Kq,_,t1,t2,t3⟩:=((zt s s' a b a' b' (by omega) (by omega) (by omega) (by omega)).j ((UC p p' hpo PL).j ((IP W.eq ps ps' 34 (by omega) (by omega) hp).any))).at 0;generalize Kq=N at*;refine Ca.bO (n:=N+90) ?_;rw[aA rfl (k34:E0.fn _=_) rfl];simp only[W.d,W.eq,W.fA,W.DZ];generalize (s==s'&&decide (a=a')&&decide (b=b'))=r1,iB Mo.eq p p'=r2,iB W.eq ps ps'=r3 at*;simp only[raw,LD]at*;generalize LL a=x1,LL b=x2 at*;generalize LL a'=x3,LL b'=x4 at*;simp only[PD]at*;generalize List.map Mo.d p=y1 at*;generalize List.map Mo.d p'=y2,List.map W.d ps=y3 at*;generalize List.map W.d ps'=y4 at*;cases r1
   ·simp -implicitDefEqProofs[f34,t1]
   ·cases h1:(c==c')
    ·simp -implicitDefEqProofs[f34,t1,h1]
    ·cases h2:(i==i')
     ·simp -implicitDefEqProofs[f34,t1,h1,h2]
     ·cases h3:(u==u')
      ·simp -implicitDefEqProofs[f34,t1,h1,h2,h3]
      ·cases r2
       ·simp -implicitDefEqProofs[f34,t1,h1,h2,h3,t2]
       ·simp -implicitDefEqProofs[f34,t1,h1,h2,h3,t2,t3]
theorem iT (v:W)(hv:v.OK):∀ w:W,w.OK->Ca E0 34 [.d v.d,.d w.d] (.d (.v (.bool (v.eq w))),none):=by
 induction hv with
 | @mk s a b c i u p ps ha hb la lb hpo lp h ih =>
  intro w hw;refine LZ _ w (.mk ha hb la lb hpo lp h) hw ?_;cases hw with
  | @mk s' a' b' c' i' u' p' ps' ha' hb' la' lb' PL lp' h' =>
   simp only;exact fun x hx y hy=>ih x hx y (h' y hy)
def WL:aD:=f40.body.r.r.l.r.bl.lp
def Te (l1 l2:List Mo)(k:Nat)(t:FV):St:=(st0 [.d (PD l1),.d (PD l2),.u,.d (.v (.int .i64 k)),.u,t,.u] [])
def psF:St:=(st0 [.u,.u,.d (.v (.bool false)),.u,.u,.u,.u] [])
theorem PM (l1 l2:List Mo)(k:Nat)(m n:Mo)(h1:Po l1)(h2:Po l2)(hx:l1[k]?=some m)(hy:l2[k]?=some n) :
  Ex E0 WL (Te l1 l2 k .u) (if m.eq n then(.norm,Te l1 l2 (k+1) .u) else(.ret,psF)):=by
 have hkl:k<l1.length:=(aT hx)
 have lV:k<l2.length:=(aT hy)
 have hll:=h1.2;obtain⟨_,_,la,lb⟩:=h1.1 m (List.mem_of_getElem? hx);obtain⟨_,_,la',lb'⟩:=h2.1 n (List.mem_of_getElem? hy);obtain⟨N,t⟩:=(ll m.s n.s m.a m.b n.a n.b (by omega) (by omega) (by omega) (by omega)).get;have e1:(l1.map Mo.d)[k]?=some m.d:=by simp[hx]
 have e2:(l2.map Mo.d)[k]?=some n.d:=by simp[hy]
 have n1:(l1.map Mo.d).length=l1.length:=by simp
 have n2:(l2.map Mo.d).length=l2.length:=by simp
 have aR:ak .i64 ((k:Int)+1)=(k:Int)+1:=wrap_i64 (by omega);have hk1:((k+1:Nat):Int)=(k:Int)+1:=by omega
 have hk0:(0:Int)<=(k:Int):=by omega
 have he:decide (m.e=n.e)=(m.e.1==n.e.1&&(m.e.2.1==n.e.2.1&&m.e.2.2==n.e.2.2)):=by
  obtain⟨⟨x,y,z⟩,_,_,_⟩:=m;obtain⟨⟨x',y',z'⟩,_,_,_⟩:=n;simp only[Prod.mk.injEq,Bool.decide_and];rfl
 refine Ex.of (n:=N+300) ?_;unfold Te psF Mo.eq;rw[hk1,he];generalize (m.s==n.s&&decide (m.a=n.a)&&decide (m.b=n.b))=r at*;obtain⟨⟨x,y,z⟩,s,a,b⟩:=m;obtain⟨⟨x',y',z'⟩,s',a',b'⟩:=n;simp only[Mo.d,raw,PD]at*;generalize LL a=x1,LL b=x2 at*;generalize LL a'=x3,LL b'=x4 at*;simp only[LD]at*;generalize List.map Mo.d l1=es1,List.map Mo.d l2=es2 at*;have i1:=idx e1;have i2:=idx e2
 by_cases q1:(x==x'&&(y==y'&&z==z'))=true
 ·have q1':=q1;simp only[Bool.and_eq_true]at q1';rw[q1];cases r
  ·simp -implicitDefEqProofs[WL,f40,cB,hkl,lV,hk0,e1,e2,i1,i2,n1,n2,q1'.1,q1'.2.1,q1'.2.2,t]
  ·simp -implicitDefEqProofs[WL,f40,cB,hkl,lV,hk0,e1,e2,i1,i2,n1,n2,q1'.1,q1'.2.1,q1'.2.2,t,aR]
 ·simp only[Bool.not_eq_true]at q1;rw[q1];cases g1:(x==x')<;>cases g2:(y==y')<;>cases g3:(z==z')<;>first
   | (rw[g1,g2,g3]at q1;cases q1;done)
   | simp -implicitDefEqProofs[WL,f40,cB,hkl,lV,hk0,e1,e2,i1,i2,n1,n2,g1,g2,g3]
theorem UD (l1 l2:List Mo)(h1:Po l1)(h2:Po l2)(hl:l1.length=l2.length) :
  ∃ r,Ex E0 (.loop WL) (Te l1 l2 0 .u) r/\((iB Mo.eq l1 l2=true/\r=(.exit 0,Te l1 l2 l1.length (.d (.v (.bool false)))))\/(iB Mo.eq l1 l2=false/\r=(.ret,psF))):=by
 refine Ex.inv (S:=fun k:Nat=>Te l1 l2 k .u) (fun k=>l1.length-k) (fun k=>k<=l1.length/\iB Mo.eq l1 l2=iB Mo.eq (l1.drop k) (l2.drop k)) _ ?_ 0 ⟨by simp,by simp⟩;rintro k ⟨q1,q2⟩
 by_cases hk:k<l1.length
 ·have hx:l1[k]?=some (l1[k]'hk):=List.getElem?_eq_getElem hk;have hy:l2[k]?=some (l2[k]'(by omega)):=List.getElem?_eq_getElem (by omega);have d1:l1.drop k=l1[k]'hk::l1.drop (k+1):=List.drop_eq_getElem_cons hk;have d2:l2.drop k=l2[k]'(by omega)::l2.drop (k+1):=List.drop_eq_getElem_cons (by omega);have hr:=PM l1 l2 k _ _ h1 h2 hx hy;rw[d1,d2]at q2;simp only[iB]at q2;cases hv:Mo.eq (l1[k]'hk) (l2[k]'(by omega))
  ·rw[hv]at hr q2;exact .inr ⟨_,hr,by simp,.inr ⟨by simpa using q2,rfl⟩⟩
  ·rw[hv]at hr q2;exact .inl ⟨k+1,hr,by omega,by omega,by simpa using q2⟩
 ·have he:k=l1.length:=by omega
  subst he;have n1:(l1.map Mo.d).length=l1.length:=by simp
  rw[List.drop_length,hl,List.drop_length]at q2;refine .inr ⟨_,Ex.of (n:=60) ?_,?_,.inl ⟨by rw[q2];rfl,rfl⟩⟩
  ·unfold Te;simp only[PD];generalize List.map Mo.d l1=es1,List.map Mo.d l2=es2,l1.length=m at*;simp -implicitDefEqProofs[WL,f40,n1]
  ·simp
theorem PN (l1 l2:List Mo)(h1:Po l1)(h2:Po l2):Ca E0 40 [.d (PD l1),.d (PD l2)] (.d (.v (.bool (iB Mo.eq l1 l2))),none):=by
 have n1:(l1.map Mo.d).length=l1.length:=by simp
 have n2:(l2.map Mo.d).length=l2.length:=by simp
 by_cases hl:l1.length=l2.length
 ·obtain⟨r,hr,h⟩:=UD l1 l2 h1 h2 hl;have hA:Ex E0 f40.body.l (st0 [.d (PD l1),.d (PD l2),.u,.u,.u,.u,.u] []) (.norm,(st0 [.d (PD l1),.d (PD l2),.u,.u,.u,.u,.u] [])):=by
   refine Ex.of (n:=40) ?_;generalize PD l1=p1,PD l2=p2 at*;simp -implicitDefEqProofs[f40]
  have hB:Ex E0 f40.body.r.l (st0 [.d (PD l1),.d (PD l2),.u,.u,.u,.u,.u] []) (.norm,(st0 [.d (PD l1),.d (PD l2),.u,.u,.d (.v (.bool false)),.u,.u] [])):=by
   refine Ex.of (n:=40) ?_;simp only[PD];generalize List.map Mo.d l1=es1,List.map Mo.d l2=es2 at*;simp -implicitDefEqProofs[f40,n1,n2,hl]
  have hC:Ex E0 f40.body.r.r.l.l (st0 [.d (PD l1),.d (PD l2),.u,.u,.d (.v (.bool false)),.u,.u] []) (.norm,Te l1 l2 0 .u):=by
   refine Ex.of (n:=40) ?_;unfold Te;generalize PD l1=p1,PD l2=p2 at*;simp -implicitDefEqProofs[f40]
  rcases h with ⟨hv,rfl⟩|⟨hv,rfl⟩
  ·rw[hv];refine Ca.body (o:=.ret) (st1:=(st0 [.u,.u,.d (.v (.bool true)),.u,.u,.u,.u] [])) rfl (k40:E0.fn _=_) rfl ?_ (by intro id h;cases h) ?_
   ·show Ex E0 (.seq f40.body.l (.seq f40.body.r.l (.seq (.seq f40.body.r.r.l.l (.block 0 (.loop WL))) f40.body.r.r.r))) _ _;refine hA.seq (hB.seq ((hC.seq hr.block).seq (Ex.of (n:=40) ?_)));unfold Te;generalize PD l1=p1,PD l2=p2 at*;simp -implicitDefEqProofs[f40]
   ·simp -implicitDefEqProofs[f40]
  ·rw[hv];refine Ca.body (o:=.ret) (st1:=psF) rfl (k40:E0.fn _=_) rfl ?_ (by intro id h;cases h) ?_
   ·show Ex E0 (.seq f40.body.l (.seq f40.body.r.l (.seq (.seq f40.body.r.r.l.l (.block 0 (.loop WL))) f40.body.r.r.r))) _ _;exact hA.seq (hB.seq (hC.seq hr.bf).bD)
   ·simp -implicitDefEqProofs[f40,psF]
 ·have hf:iB Mo.eq l1 l2=false:=by
   cases h:iB Mo.eq l1 l2
   ·rfl
   ·exact absurd (jv h) hl
  have hne:((l1.length:Int) != (l2.length:Int))=true:=by simp;omega
  rw[hf];refine Ca.bO (n:=60) ?_;rw[aA rfl (k40:E0.fn _=_) rfl];simp only[PD];generalize List.map Mo.d l1=es1,List.map Mo.d l2=es2 at*;simp -implicitDefEqProofs[f40,n1,n2,hne]
def Yl:aD:=f12.body.r.r.l.r.bl.lp
def Tf (c1 c2:List FV)(k:Nat)(t:FV):St:=(st0 [.u,.u,.r (.loc 0) 0,.r (.loc 1) 0,.u,.d (.v (.int .i64 k)),.u,t,.u] [.box c1,.box c2])
def weF (c1 c2:List FV):St:=(st0 [.u,.u,.u,.u,.d (.v (.bool false)),.u,.u,.u,.u] [.box c1,.box c2])
theorem PO (p1 p2 p3 p4 p5 p6 p7 q1 q2 q3 q4 q5 q6 q7:D)(l1 l2:List W)(k:Nat)(x y:W)(v:Bool)(h1:l1.length<=1000000)(hx:l1[k]?=some x)(hy:l2[k]?=some y)(hc:Ca E0 12 [.d x.d,.d y.d] (.d (.v (.bool v)),none)) :
  Ex E0 Yl (Tf [.d p1,.d p2,.d p3,.d p4,.d p5,.d p6,.d p7,.d (.s 8 (l1.map W.d))] [.d q1,.d q2,.d q3,.d q4,.d q5,.d q6,.d q7,.d (.s 8 (l2.map W.d))] k .u)
   (if v then(.norm,Tf [.d p1,.d p2,.d p3,.d p4,.d p5,.d p6,.d p7,.d (.s 8 (l1.map W.d))] [.d q1,.d q2,.d q3,.d q4,.d q5,.d q6,.d q7,.d (.s 8 (l2.map W.d))] (k+1) .u)
    else(.ret,weF [.d p1,.d p2,.d p3,.d p4,.d p5,.d p6,.d p7,.d (.s 8 (l1.map W.d))] [.d q1,.d q2,.d q3,.d q4,.d q5,.d q6,.d q7,.d (.s 8 (l2.map W.d))])):=by
 have hkl:k<l1.length:=(aT hx)
 have lV:k<l2.length:=(aT hy)
 obtain⟨N,hf⟩:=hc.get;have e1:(l1.map W.d)[k]?=some x.d:=by simp[hx]
 have e2:(l2.map W.d)[k]?=some y.d:=by simp[hy]
 have n1:(l1.map W.d).length=l1.length:=by simp
 have n2:(l2.map W.d).length=l2.length:=by simp
 have aR:ak .i64 ((k:Int)+1)=(k:Int)+1:=wrap_i64 (by omega);have hk1:((k+1:Nat):Int)=(k:Int)+1:=by omega
 have hk0:(0:Int)<=(k:Int):=by omega
 refine Ex.of (n:=N+300) ?_;unfold Tf weF;rw[hk1];obtain⟨sx,ax,bx,cx,ix,ux,px,Ci⟩:=x;obtain⟨sy,ay,by2,cy,iy,uy,py,psy⟩:=y;simp only[W.d,PD]at*;generalize LL ax=x1,LL bx=x2,LL ay=x3,LL by2=x4,List.map Mo.d px=x5,List.map Mo.d py=x6,W.ds Ci=x7,W.ds psy=x8 at*;simp only[LD]at*;generalize List.map W.d l1=es1,List.map W.d l2=es2 at*;have i1:=idx e1;have i2:=idx e2;cases v
 ·simp -implicitDefEqProofs[Yl,f12,hkl,lV,hk0,e1,e2,i1,i2,n1,n2,hf]
 ·simp -implicitDefEqProofs[Yl,f12,hkl,lV,hk0,e1,e2,i1,i2,n1,n2,hf,aR]
theorem UE (p1 p2 p3 p4 p5 p6 p7 q1 q2 q3 q4 q5 q6 q7:D)(l1 l2:List W)(h1:l1.length<=1000000)(hl:l1.length=l2.length)(hc:∀ x ∈ l1,∀ y ∈ l2,Ca E0 12 [.d x.d,.d y.d] (.d (.v (.bool (x.eq y))),none)) :
  ∃ r,Ex E0 (.loop Yl) (Tf [.d p1,.d p2,.d p3,.d p4,.d p5,.d p6,.d p7,.d (.s 8 (l1.map W.d))] [.d q1,.d q2,.d q3,.d q4,.d q5,.d q6,.d q7,.d (.s 8 (l2.map W.d))] 0 .u) r /\
   ((iB W.eq l1 l2=true/\r=(.exit 0,Tf [.d p1,.d p2,.d p3,.d p4,.d p5,.d p6,.d p7,.d (.s 8 (l1.map W.d))] [.d q1,.d q2,.d q3,.d q4,.d q5,.d q6,.d q7,.d (.s 8 (l2.map W.d))] l1.length (.d (.v (.bool false))))) \/
    (iB W.eq l1 l2=false/\r=(.ret,weF [.d p1,.d p2,.d p3,.d p4,.d p5,.d p6,.d p7,.d (.s 8 (l1.map W.d))] [.d q1,.d q2,.d q3,.d q4,.d q5,.d q6,.d q7,.d (.s 8 (l2.map W.d))]))):=by
 refine Ex.inv (S:=fun k:Nat=>Tf [.d p1,.d p2,.d p3,.d p4,.d p5,.d p6,.d p7,.d (.s 8 (l1.map W.d))] [.d q1,.d q2,.d q3,.d q4,.d q5,.d q6,.d q7,.d (.s 8 (l2.map W.d))] k .u) (fun k=>l1.length-k) (fun k=>k<=l1.length/\iB W.eq l1 l2=iB W.eq (l1.drop k) (l2.drop k)) _ ?_ 0 ⟨by simp,by simp⟩;rintro k ⟨g1,g2⟩
 by_cases hk:k<l1.length
 ·have hx:l1[k]?=some (l1[k]'hk):=List.getElem?_eq_getElem hk;have hy:l2[k]?=some (l2[k]'(by omega)):=List.getElem?_eq_getElem (by omega);have d1:l1.drop k=l1[k]'hk::l1.drop (k+1):=List.drop_eq_getElem_cons hk;have d2:l2.drop k=l2[k]'(by omega)::l2.drop (k+1):=List.drop_eq_getElem_cons (by omega);have hr:=PO p1 p2 p3 p4 p5 p6 p7 q1 q2 q3 q4 q5 q6 q7 l1 l2 k _ _ _ h1 hx hy (hc _ (List.getElem_mem hk) _ (List.getElem_mem (by omega)));rw[d1,d2]at g2;simp only[iB]at g2;cases hv:W.eq (l1[k]'hk) (l2[k]'(by omega))
  ·rw[hv]at hr g2;exact .inr ⟨_,hr,by simp,.inr ⟨by simpa using g2,rfl⟩⟩
  ·rw[hv]at hr g2;exact .inl ⟨k+1,hr,by omega,by omega,by simpa using g2⟩
 ·have he:k=l1.length:=by omega
  subst he;have n1:(l1.map W.d).length=l1.length:=by simp
  rw[List.drop_length,hl,List.drop_length]at g2;refine .inr ⟨_,Ex.of (n:=60) ?_,?_,.inl ⟨by rw[g2];rfl,rfl⟩⟩
  ·unfold Tf;generalize List.map W.d l1=es1,List.map W.d l2=es2,l1.length=m at*;simp -implicitDefEqProofs[Yl,f12,n1]
  ·simp
set_option maxRecDepth 4000
theorem IQ (v w:W)(hv:v.OK)(hw:w.OK)(hp:match v,w with|.mk _ _ _ _ _ _ _ ps,.mk _ _ _ _ _ _ _ ps'=>∀ x ∈ ps,∀ y ∈ ps',Ca E0 12 [.d x.d,.d y.d] (.d (.v (.bool (x.eq y))),none)) :
  Ca E0 12 [.d v.d,.d w.d] (.d (.v (.bool (v.eq w))),none):=by
 cases hv with
 | @mk s a b c i u p ps ha hb la lb hpo lp h =>
  cases hw with
  | @mk s' a' b' c' i' u' p' ps' ha' hb' la' lb' PL lp' h' =>
   simp only at hp;obtain⟨Kq,_,t1,t2⟩:=((ll s s' a b a' b' (by omega) (by omega) (by omega) (by omega)).j ((PN p p' hpo PL).any)).at 0;generalize Kq=N at*;have m1:(ps.map W.d).length=ps.length:=by simp
   have m2:(ps'.map W.d).length=ps'.length:=by simp
   simp only[W.d,W.eq,W.fA,W.DZ]
   by_cases hall:((s==s'&&decide (a=a')&&decide (b=b'))&&(c==c')&&(i==i')&&(u==u')&&iB Mo.eq p p'&&(ps.length==ps'.length))=true
   ·simp only[Bool.and_eq_true]at hall;obtain⟨⟨⟨⟨⟨r1,h1⟩,h2⟩,h3⟩,r2⟩,h4⟩:=hall;have hlen:ps.length=ps'.length:=by simpa using h4
    have r1':(s==s'&&decide (a=a')&&decide (b=b'))=true:=by simpa using r1
    rw[r1']at t1;rw[r2]at t2;rw[r1',h1,h2,h3,r2];simp only[Bool.true_and];obtain⟨r,hr,hq⟩:=UE (.v (.bool s)) (LD a) (LD b) (.v (.int .i64 c)) (.v (.bool i)) (.v (.int .u64 u)) (PD p) (.v (.bool s')) (LD a') (LD b') (.v (.int .i64 c')) (.v (.bool i')) (.v (.int .u64 u')) (PD p') ps ps' (by omega) hlen hp;generalize iB W.eq ps ps'=res at*;simp only[raw,LD,PD]at*;generalize LL a=x1,LL b=x2 at*;generalize LL a'=x3,LL b'=x4,List.map Mo.d p=y1 at*;generalize List.map Mo.d p'=y2 at*;generalize hy3:List.map W.d ps=y3 at*;generalize hy4:List.map W.d ps'=y4 at*;have g1:(c != c')=false:=by simpa using h1
    have g2:(u != u')=false:=by simpa using h3
    have m3:y4.length=ps.length:=by omega
    have hA:Ex E0 f12.body.l (st0 [.d (.a [.v (.bool s),.s 1 x1,.s 1 x2,.v (.int .i64 c),.v (.bool i),.v (.int .u64 u),.s 6 y1,.s 8 y3]),.d (.a [.v (.bool s'),.s 1 x3,.s 1 x4,.v (.int .i64 c'),.v (.bool i'),.v (.int .u64 u'),.s 6 y2,.s 8 y4]),.u,.u,.u,.u,.u,.u,.u] [])
      (.norm,(st0 [.u,.u,.r (.loc 0) 0,.r (.loc 1) 0,.u,.u,.u,.u,.u] [.box [.d (.v (.bool s)),.d (.s 1 x1),.d (.s 1 x2),.d (.v (.int .i64 c)),.d (.v (.bool i)),.d (.v (.int .u64 u)),.d (.s 6 y1),.d (.s 8 y3)],.box [.d (.v (.bool s')),.d (.s 1 x3),.d (.s 1 x4),.d (.v (.int .i64 c')),.d (.v (.bool i')),.d (.v (.int .u64 u')),.d (.s 6 y2),.d (.s 8 y4)]])):=by
     refine Ex.of (n:=40) ?_;simp -implicitDefEqProofs[f12]
    have hB:Ex E0 f12.body.r.l (st0 [.u,.u,.r (.loc 0) 0,.r (.loc 1) 0,.u,.u,.u,.u,.u] [.box [.d (.v (.bool s)),.d (.s 1 x1),.d (.s 1 x2),.d (.v (.int .i64 c)),.d (.v (.bool i)),.d (.v (.int .u64 u)),.d (.s 6 y1),.d (.s 8 y3)],.box [.d (.v (.bool s')),.d (.s 1 x3),.d (.s 1 x4),.d (.v (.int .i64 c')),.d (.v (.bool i')),.d (.v (.int .u64 u')),.d (.s 6 y2),.d (.s 8 y4)]])
      (.norm,(st0 [.u,.u,.r (.loc 0) 0,.r (.loc 1) 0,.u,.u,.d (.v (.bool false)),.u,.u] [.box [.d (.v (.bool s)),.d (.s 1 x1),.d (.s 1 x2),.d (.v (.int .i64 c)),.d (.v (.bool i)),.d (.v (.int .u64 u)),.d (.s 6 y1),.d (.s 8 y3)],.box [.d (.v (.bool s')),.d (.s 1 x3),.d (.s 1 x4),.d (.v (.int .i64 c')),.d (.v (.bool i')),.d (.v (.int .u64 u')),.d (.s 6 y2),.d (.s 8 y4)]])):=by
     refine Ex.of (n:=N+90) ?_;simp -implicitDefEqProofs[f12,t1,t2,g1,g2,h2,m1,m3]
    have hC:Ex E0 f12.body.r.r.l.l (st0 [.u,.u,.r (.loc 0) 0,.r (.loc 1) 0,.u,.u,.d (.v (.bool false)),.u,.u] [.box [.d (.v (.bool s)),.d (.s 1 x1),.d (.s 1 x2),.d (.v (.int .i64 c)),.d (.v (.bool i)),.d (.v (.int .u64 u)),.d (.s 6 y1),.d (.s 8 y3)],.box [.d (.v (.bool s')),.d (.s 1 x3),.d (.s 1 x4),.d (.v (.int .i64 c')),.d (.v (.bool i')),.d (.v (.int .u64 u')),.d (.s 6 y2),.d (.s 8 y4)]])
      (.norm,Tf [.d (.v (.bool s)),.d (.s 1 x1),.d (.s 1 x2),.d (.v (.int .i64 c)),.d (.v (.bool i)),.d (.v (.int .u64 u)),.d (.s 6 y1),.d (.s 8 y3)] [.d (.v (.bool s')),.d (.s 1 x3),.d (.s 1 x4),.d (.v (.int .i64 c')),.d (.v (.bool i')),.d (.v (.int .u64 u')),.d (.s 6 y2),.d (.s 8 y4)] 0 .u):=by
     refine Ex.of (n:=40) ?_;unfold Tf;simp -implicitDefEqProofs[f12]
    rcases hq with ⟨rfl,rfl⟩|⟨rfl,rfl⟩
    ·refine Ca.body (o:=.ret) (st1:=(st0 [.u,.u,.u,.u,.d (.v (.bool true)),.u,.u,.u,.u] [.box [.d (.v (.bool s)),.d (.s 1 x1),.d (.s 1 x2),.d (.v (.int .i64 c)),.d (.v (.bool i)),.d (.v (.int .u64 u)),.d (.s 6 y1),.d (.s 8 y3)],.box [.d (.v (.bool s')),.d (.s 1 x3),.d (.s 1 x4),.d (.v (.int .i64 c')),.d (.v (.bool i')),.d (.v (.int .u64 u')),.d (.s 6 y2),.d (.s 8 y4)]])) rfl (k12:E0.fn _=_) rfl ?_ (by intro id h;cases h) ?_
     ·show Ex E0 (.seq f12.body.l (.seq f12.body.r.l (.seq (.seq f12.body.r.r.l.l (.block 0 (.loop Yl))) f12.body.r.r.r))) _ _;refine hA.seq (hB.seq ((hC.seq hr.block).seq (Ex.of (n:=40) ?_)));unfold Tf;simp -implicitDefEqProofs[f12]
     ·simp -implicitDefEqProofs[f12]
    ·refine Ca.body (o:=.ret) (st1:=weF [.d (.v (.bool s)),.d (.s 1 x1),.d (.s 1 x2),.d (.v (.int .i64 c)),.d (.v (.bool i)),.d (.v (.int .u64 u)),.d (.s 6 y1),.d (.s 8 y3)] [.d (.v (.bool s')),.d (.s 1 x3),.d (.s 1 x4),.d (.v (.int .i64 c')),.d (.v (.bool i')),.d (.v (.int .u64 u')),.d (.s 6 y2),.d (.s 8 y4)]) rfl (k12:E0.fn _=_) rfl ?_ (by intro id h;cases h) ?_
     ·show Ex E0 (.seq f12.body.l (.seq f12.body.r.l (.seq (.seq f12.body.r.r.l.l (.block 0 (.loop Yl))) f12.body.r.r.r))) _ _;exact hA.seq (hB.seq (hC.seq hr.bf).bD)
     ·simp -implicitDefEqProofs[f12,weF]
   ·have hres:((s==s'&&decide (a=a')&&decide (b=b'))&&(c==c')&&(i==i')&&(u==u')&&iB Mo.eq p p'&&iB W.eq ps ps')=false:=by
     rw[<-Bool.not_eq_true];intro hh;apply hall;simp only[Bool.and_eq_true]at hh ⊢;exact⟨hh.1,by simpa using jv hh.2⟩
    rw[hres];have e1:(c != c') = !(c==c'):=rfl;have e3:(u != u') = !(u==u'):=rfl;have e4:((ps.length:Int) != (ps'.length:Int)) = !(ps.length==ps'.length):=by
     have hcast:∀ x y:Nat,((x:Int) != (y:Int)) = !(x==y):=by
      intro x y
      by_cases hh:x=y
      ·rw[hh];simp
      ·have h1:((x:Int) != (y:Int))=true:=bne_iff_ne.2 (by omega);have h2:(x==y)=false:=beq_eq_false_iff_ne.2 hh;rw[h1,h2];rfl
     exact hcast _ _
    clear hp hres;refine Ca.bO (n:=N+90) ?_;rw[aA rfl (k12:E0.fn _=_) rfl];generalize (s==s'&&decide (a=a')&&decide (b=b'))=r1,iB Mo.eq p p'=r2,(ps.length==ps'.length)=b4 at*;simp only[raw,LD,PD]at*;generalize LL a=x1,LL b=x2 at*;generalize LL a'=x3,LL b'=x4,List.map Mo.d p=y1 at*;generalize List.map Mo.d p'=y2,List.map W.d ps=y3 at*;generalize List.map W.d ps'=y4 at*;cases r1
    ·simp -implicitDefEqProofs[f12,t1]
    ·cases h1:(c==c')
     ·rw[h1]at e1;simp -implicitDefEqProofs[f12,t1,e1]
     ·rw[h1]at e1;cases h2:(i==i')
      ·simp -implicitDefEqProofs[f12,t1,e1,h2]
      ·cases h3:(u==u')
       ·rw[h3]at e3;simp -implicitDefEqProofs[f12,t1,e1,h2,e3]
       ·rw[h3]at e3;cases r2
        ·simp -implicitDefEqProofs[f12,t1,e1,h2,e3,t2]
        ·cases b4
         ·simp -implicitDefEqProofs[f12,t1,e1,h2,e3,t2,m1,m2,e4]
         ·exact absurd (by rw[h1,h2,h3];rfl) hall
theorem qQ (v:W)(hv:v.OK):∀ w:W,w.OK->Ca E0 12 [.d v.d,.d w.d] (.d (.v (.bool (v.eq w))),none):=by
 induction hv with
 | @mk s a b c i u p ps ha hb la lb hpo lp h ih =>
  intro w hw;refine IQ _ w (.mk ha hb la lb hpo lp h) hw ?_;cases hw with
  | @mk s' a' b' c' i' u' p' ps' ha' hb' la' lb' PL lp' h' =>
   simp only;exact fun x hx y hy=>ih x hx y (h' y hy)
end Fi.S
