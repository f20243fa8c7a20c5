import Derived.Test.YtkekcmgkpdkieaaGreatDoorCA
set_option linter.unusedVariables false
set_option linter.unusedSimpArgs false
noncomputable section
namespace Fi.S
open Go Fi
set_option maxHeartbeats 8000000
theorem zA {n k:Nat}(h1:4294967296 ^ k<=n)(h2:n<4294967296 ^ (k+1)):(enc n).length=k+1:=by
 have a:=fG h2;rcases Qg2 k (enc n).length with h|h
 ·omega
 ·exfalso;have h3:=nH (aU n);rw[aV]at h3;have h4:=Qu2 (n:=4294967296) ae h;omega
theorem Ac {u:Nat}(h:0<u):enc u=u % 4294967296::enc (u / 4294967296):=by
 rw[enc,if_neg ae]
theorem u_ (n:Nat):∀ (u:Nat),bC (enc u) n=u / 4294967296 ^ n % 4294967296:=by
 induction n with
 | zero =>
  intro u;rcases Qq0 u with rfl|h
  ·simp[df,bC]
  ·rw[Ac h];simp[bC]
 | succ n ih =>
  intro u;rcases Qq0 u with rfl|h
  ·simp[df,bC]
  ·have:bC (enc u) (n+1)=bC (enc (u / 4294967296)) n:=by rw[Ac h];simp[bC]
   rw[this,ih,Qy2,Qn1,Qm1]
theorem WJ (k:Nat):∀ {y:Nat},4294967296 ^ k<=y->y<4294967296 ^ (k+1)->∃ lo,enc y=lo++[y / 4294967296 ^ k]/\lo.length=k:=by
 induction k with
 | zero =>
  intro y h1 h2;simp at h1 h2;refine⟨[],?_,rfl⟩;rw[nQ ae ae];simp
 | succ k ih =>
  intro y h1 h2;have hp:0<4294967296 ^ (k+1):=Qt0 ae;obtain⟨lo,e,hl⟩:=ih (y:=y / 4294967296) (by rw[Xz2 ae,<-Qn1];exact h1) (by rw[Qt1 ae,<-Qn1];exact h2);refine⟨y % 4294967296::lo,?_,by simp[hl]⟩;rw[Ac ae,e,Qy2,Qn1,Qm1 (4294967296 ^ k)];rfl
theorem GU {x:Nat}(h:0<x):2 ^ (fH x-1)<=x/\x<2 ^ fH x:=by
 unfold fH;rw[if_neg ae];exact⟨Nat.log2_self_le ae,Nat.lt_log2_self⟩
theorem Q0 {y k:Nat}(h1:4294967296 ^ k<=y)(h2:y<4294967296 ^ (k+1)) :
  y*2 ^ (32-fH (y / 4294967296 ^ k))<4294967296 ^ (k+1)/\4294967296 ^ k<=y*2 ^ (32-fH (y / 4294967296 ^ k)):=by
 have hp:0<4294967296 ^ k:=Qt0 ae;have ht0:0<y / 4294967296 ^ k:=Xw2 h1 hp;have ht1:y / 4294967296 ^ k<4294967296:=by rw[Qt1 hp,Qm1,<-Qn1];exact h2
 have hb:=GU ht0;have hb2:=zz ht1;have hy:y<(y / 4294967296 ^ k+1)*4294967296 ^ k:=by
  have:=Nat.lt_mul_div_succ y hp;rw[Qm1];exact this
 generalize y / 4294967296 ^ k=t at*;have hq:2 ^ fH t*2 ^ (32-fH t)=4294967296:=by rw[<-Qx2,show fH t+(32-fH t)=32 by omega]
 have hr:0<2 ^ (32-fH t):=Qt0 ae;generalize 2 ^ (32-fH t)=r,2 ^ fH t=s at*;constructor
 ·rw[Qn1]
  calc y*r<(t+1)*4294967296 ^ k*r:=Q20 hy hr
   _<=s*4294967296 ^ k*r:=Qh2 _ (Qh2 _ hb.2)
   _=4294967296 ^ k*4294967296:=by rw[Nat.mul_right_comm,hq,Qm1]
 ·exact Qe2 h1 (Xk1 _ hr)
theorem Q3 {u v k j:Nat}(hv:4294967296 ^ k<=v)(hu:u<v*4294967296 ^ j*4294967296) :
  u / (v*4294967296 ^ j)<=min (u / 4294967296 ^ (j+k) / (v / 4294967296 ^ k)) 4294967295:=by
 have hp:0<4294967296 ^ k:=Qt0 ae;have hp2:0<4294967296 ^ j:=Qt0 ae;have hvt:0<v / 4294967296 ^ k:=Xw2 hv hp;have hw:0<v*4294967296 ^ j:=Xi2 ae hp2;have h1:u / (v*4294967296 ^ j)<4294967296:=by rw[Qt1 hw,Qm1];exact hu
 have h2:=X22 u (v*4294967296 ^ j);have h3:=X22 v (4294967296 ^ k);have:u / (v*4294967296 ^ j)<=u / 4294967296 ^ (j+k) / (v / 4294967296 ^ k):=by
  rw[Xz2 hvt,Xz2 (Qt0 ae)];generalize u / (v*4294967296 ^ j)=d,v / 4294967296 ^ k=t at*;rw[Qx2];generalize 4294967296 ^ k=K,4294967296 ^ j=J at*
  calc d*t*(J*K)=d*(t*K*J):=by grind
   _<=d*(v*J):=Xa2 _ (Qh2 _ h3)
   _<=u:=h2
 omega
theorem NH {u n:Nat}(h:u<4294967296 ^ (n+2)):bC (enc u) (n+1)*4294967296+bC (enc u) n=u / 4294967296 ^ n/\bC (enc u) (n+1)<4294967296/\bC (enc u) n<4294967296:=by
 rw[u_,u_];have hp:0<4294967296 ^ n:=Qt0 ae;have h1:u / 4294967296 ^ (n+1)=u / 4294967296 ^ n / 4294967296:=by rw[Qy2,Qn1]
 have h2:u / 4294967296 ^ n<4294967296*4294967296:=by
  rw[Qt1 hp];rw[Qx2]at h;have e:(4294967296:Nat) ^ 2=4294967296*4294967296:=by rfl
  rw[e,Qm1]at h;exact h
 rw[h1];generalize u / 4294967296 ^ n=t at*;have h3:t / 4294967296<4294967296:=ae;omega
theorem Q4 {u w X Q B:Nat}(hB:X=Q*B*w+u):X=(u / w+B*Q)*w+u % w:=by
 have:=Xr2 u w;rw[Qu1,Qm1 B Q,Qm1 (u / w) w];omega
def zg:aF:=yo.body.r.r.r.r.r.l.r.bl.lp
def oiB:aF:=zg.r.l.bl.r.r.r.l.bl.lp
def WK (up u v:Nat)(es:List D)(L j g p:Nat)(t:FV):St:=(st0 [.u,.u,.ls (.loc 0) 0 1 0 L,.u,.u,.u,dI up,.d (LD (enc u)),.d (LD (enc v)),dI j,.u,.d (.v (.int .u64 g)),.d (LD (enc p)),.u,.u,t] [.row 0 1 es])
theorem JU (up u v L j d:Nat)(es:List D)(hv:0<v)(hj:j<=100000000)(lu:(enc u).length<=100000000)(lv:(enc v).length<=100000000)(lw:(enc (v*4294967296 ^ j*4294967295)).length<=100000000)
  (hd:d=u / (v*4294967296 ^ j)) (g:Nat) (hg:d<=g) (hg2:g<=4294967295) :
  Ex E0 (.loop oiB) (WK up u v es L j g (v*4294967296 ^ j*g) .u) (.exit 2,WK up u v es L j d (v*4294967296 ^ j*d) (dB false)):=by
 have hw:0<v*4294967296 ^ j:=Xi2 hv (Qt0 ae);have hl:=zx (enc v) (32*j) ae lv (aU _);rw[aV,X41,show(2:Nat) ^ 32=4294967296 by rfl]at hl;generalize v*4294967296 ^ j=w at*;have key:=Ex.inv (E:=E0) (b:=oiB) (S:=fun g=>WK up u v es L j g (w*g) .u) (fun g=>g) (fun g=>d<=g/\g<=4294967295) (fun r=>r=(.exit 2,WK up u v es L j d (w*d) (dB false))) ?_ g ⟨hg,hg2⟩
 ·obtain⟨r,hr,rfl⟩:=key;exact hr
 ·clear hg hg2 g;rintro g ⟨h1,h2⟩;have lp:(enc (w*g)).length<=100000000:=Qe2 (bH (Xa2 w h2)) lw;obtain⟨n1,hc⟩:=(xe (enc u) (enc (w*g)) ae ae (aU _) (aU _)).any;rw[aV,aV]at hc
  by_cases hlt:d<g
  ·have hu:u<w*g:=by rw[hd,Qt1 hw,Qm1]at hlt;exact hlt
   have hc1:dH u (w*g)=-1:=by unfold dH;rw[if_pos hu]
   rw[hc1]at hc;have hle:w<=w*g:=Xk1 w ae;obtain⟨n2,hl⟩:=hl.any;obtain⟨n3,hm⟩:=(zY (enc (w*g)) (enc w) ae (bH hle) (aU _) (aU _) (by rw[aV,aV];exact hle)).any;have hsub:w*g-w=w*(g-1):=by rw[Nat.mul_sub,Xr0]
   rw[aV,aV,hsub]at hm;replace hc:=hc (n1+n2+n3) ae;replace hl:=hl (n1+n2+n3) ae;replace hm:=hm (n1+n2+n3) ae;generalize n1+n2+n3=N at*;refine .inl ⟨g-1,Ex.of (n:=N+60) ?_,ae,ae,ae⟩;have w1:av .u64 ((g:Int)-1)=((g-1:Nat):Int):=by rw[wrap_u64 ae];omega
   have w2:av .i64 (32*(j:Int))=((32*j:Nat):Int):=by rw[wrap_i64 ae];omega
   clear hc1 hsub lp lw hd;unfold WK;simp only[LD]at hc hl hm ⊢;generalize LL (enc u)=us,LL (enc v)=vs,LL (enc w)=ws,LL (enc (w*g))=ps,LL (enc (w*(g-1)))=ps' at*;generalize g-1=g',32*j=j32 at*;simp[zg,oiB,f226,hc,hl,hm,w1,w2]
  ·have hu:¬ u<w*g:=by rw[hd,Qt1 hw,Qm1]at hlt;exact hlt
   have hg:g=d:=ae;have hc1:(dH u (w*g):Int)=0\/dH u (w*g)=1:=by unfold dH;rw[if_neg hu];split<;>simp
   replace hc:=hc n1 ae;refine .inr ⟨_,Ex.of (n:=n1+60) ?_,aC,rfl⟩;rw[<-hg];clear lp lw hd hg;unfold WK;simp only[LD]at hc ⊢;generalize LL (enc u)=us,LL (enc v)=vs,LL (enc (w*g))=ps at*;rcases hc1 with e|e<;>rw[e]at hc<;>simp[zg,oiB,f226,hc]
def Ad (up u v:Nat)(es:List D)(L:Nat)(k:Int)(t:FV):St:=(st0 [.u,.u,.ls (.loc 0) 0 1 0 L,.u,.u,.u,dI up,.d (LD (enc u)),.d (LD (enc v)),dI k,.u,.u,.u,.u,t,.u] [.row 0 1 es])
theorem JV (up u v k L j:Nat)(es:List D)(hv:4294967296 ^ k<=v)(hv2:v<4294967296 ^ (k+1))(hj:j<=100000000)(hk:k<=100000000)(lu:(enc u).length<=100000000)(hu:u<4294967296 ^ (j+k+2)) :
  Ex E0 zg.r.l.bl.r.l {Ad up u v es L j .u with vars:=[.u,.u,.ls (.loc 0) 0 1 0 L,.u,.u,.u,dI up,.d (LD (enc u)),.d (LD (enc v)),dI j,dI ((j+k+1:Nat):Int),.u,.u,.u,.u,.u]}
   (.norm,{Ad up u v es L j .u with vars:=[.u,.u,.ls (.loc 0) 0 1 0 L,.u,.u,.u,dI up,.d (LD (enc u)),.d (LD (enc v)),dI j,.u,.d (.v (.int .u64 ((min (u / 4294967296 ^ (j+k) / (v / 4294967296 ^ k)) 4294967295:Nat):Int))),.u,.u,.u,.u]}):=by
 have lv:(LL (enc v)).length=k+1:=by simp[LL,zA hv hv2]
 have lv':=zA hv hv2;obtain⟨e1,b1,b2⟩:=NH hu;have e3:bC (enc v) k=v / 4294967296 ^ k:=by
  rw[u_,Qw1];rw[Qt1 (Qt0 ae),Qm1,<-Qn1];exact hv2
 have b3:v / 4294967296 ^ k<4294967296:=by rw[<-e3,u_];exact Qu0 _ ae
 have b4:0<v / 4294967296 ^ k:=Xw2 hv (Qt0 ae);have h1:=fun m=>jK m (enc u) ae (j+k+1) ae (aU _)
 have h2:=fun m=>jK m (enc u) ae (j+k) ae (aU _)
 have h3:=fun m=>jK m (enc v) ae k ae (aU _)
 rw[e3]at h3;rw[<-e1];generalize bC (enc u) (j+k+1)=x1 at*;generalize bC (enc u) (j+k)=x0,v / 4294967296 ^ k=vt at*;have w1:=QQ b1;have w2:=z8 b1 b2;obtain⟨P,hP⟩:∃ P:Nat,(P:Int)=(x1:Int)*4294967296:=⟨x1*4294967296,ae⟩
 obtain⟨T,hT⟩:∃ T:Nat,T=x1*4294967296+x0:=⟨_,rfl⟩
 rw[<-hP]at w1 w2;rw[show(P:Int)+(x0:Int)=(T:Int) by omega]at w2;rw[<-hT];have w5:Int.tdiv (T:Int) (vt:Int)=((T / vt:Nat):Int):=by rw[Q40 ae,Xz0]
 have hq:T / vt<18446744073709551616:=Q90 (Xl1 _ _) ae;generalize T / vt=Q at*;have w6:av .u64 (Q:Int)=(Q:Int):=wrap_u64 ae;have w7:av .i64 (((j+k+1:Nat):Int)-1)=((j+k:Nat):Int):=by rw[wrap_i64 ae];omega
 have w8:av .i64 (((k+1:Nat):Int)-1)=(k:Int):=by rw[wrap_i64 ae];omega
 have hd0:¬ ((vt:Int)=0):=ae;have WA:¬ vt=0:=ae;clear hP hT e1 e3 hu hv hv2;obtain⟨G,hG⟩:∃ G:Nat,G=min Q 4294967295:=⟨_,rfl⟩
 rw[<-hG];have hmin:((4294967295:Int)<(Q:Int)/\(G:Int)=4294967295)\/(¬ (4294967295:Int)<(Q:Int)/\(Q:Int)=(G:Int)):=ae;clear hG;refine Ex.of (n:=90) ?_;unfold Ad;simp only[LD]at h1 h2 h3 ⊢;generalize LL (enc u)=us,LL (enc v)=vs,j+k+1=n at*;generalize j+k=n1,k+1=m at*;rcases hmin with ⟨a,b⟩|⟨a,b⟩
 ·simp[zg,f226,lv,h1,h2,h3,w1,w2,w5,w6,w7,w8,hd0,WA,a,b]
 ·rw[b]at a w5 w6;simp[zg,f226,lv,h1,h2,h3,w1,w2,w5,w6,w7,w8,hd0,WA,a]
theorem Q5 (up u v L:Nat)(es:List D):EX E0 60 zg (Ad up u v es L (-1) .u)=some (.exit 0,Ad up u v es L (-1) (dB false)):=by
 unfold Ad;simp only[LD];generalize LL (enc u)=us,LL (enc v)=vs at*;simp[zg,f226]
theorem NI (up u v L j g:Nat)(es:List D)(hj:j<=100000000)(hg:g<=4294967295)(lv:(enc v).length<=10000000) :
  Ex E0 zg.r.l.bl.r.r.l {Ad up u v es L j .u with vars:=[.u,.u,.ls (.loc 0) 0 1 0 L,.u,.u,.u,dI up,.d (LD (enc u)),.d (LD (enc v)),dI j,.u,.d (.v (.int .u64 g)),.u,.u,.u,.u]}
   (.norm,WK up u v es L j g (v*4294967296 ^ j*g) .u):=by
 have lg:(enc g).length<=1:=fG (k:=1) ae;have lvg:(enc (v*g)).length<=100000000:=by
  refine Qe2 (fG (k:=(enc v).length+1) ?_) ae;have h1:=nH (aU v);rw[aV]at h1;rw[Qn1];exact Q90 (Xa2 v (show g<=4294967296 by omega)) (Q20 h1 ae)
 obtain⟨Kq,_,h1,h2,h3⟩:=((gQ [g] aC).j ((GK (enc v) (enc g) ae ae (aU _) (aU _)).j ((zx (enc (v*g)) (32*j) ae lvg (aU _)).any))).at 0;rw[GL _ ae]at h1;rw[aV,aV]at h2;rw[aV,X41,show(2:Nat) ^ 32=4294967296 by rfl]at h3;rw[show v*g*4294967296 ^ j=v*4294967296 ^ j*g by rw[Nat.mul_right_comm]]at h3;generalize Kq=N at*;have w1:av .u32 (g:Int)=(g:Int):=wrap_u32 ae;have w2:av .i64 (32*(j:Int))=((32*j:Nat):Int):=by rw[wrap_i64 ae];omega
 refine Ex.of (n:=N+60) ?_;unfold Ad WK;simp only[LD,LL,Qe1,Qc2]at h1 h2 h3 ⊢;generalize List.map (fun(x:Nat)=>D.v (Value.int IntKind.u32 (x:Int))) (enc u)=us at*;generalize List.map (fun(x:Nat)=>D.v (Value.int IntKind.u32 (x:Int))) (enc v)=vs at*;generalize List.map (fun(x:Nat)=>D.v (Value.int IntKind.u32 (x:Int))) (enc g)=gs at*;generalize List.map (fun(x:Nat)=>D.v (Value.int IntKind.u32 (x:Int))) (enc (v*g))=vgs at*;generalize List.map (fun(x:Nat)=>D.v (Value.int IntKind.u32 (x:Int))) (enc (v*4294967296 ^ j*g))=ps at*;generalize 32*j=j32 at*;simp[zg,f226,h1,h2,h3,w1,w2]
theorem JW (up u v k L j:Nat)(qs:List Nat)(hv:4294967296 ^ k<=v)(hv2:v<4294967296 ^ (k+1))(hj:j<=50000000)(hk:k<=1000000)(lu:(enc u).length<=100000000)(hu:u<v*4294967296 ^ j*4294967296)
  (hL:j+1+qs.length=L) :
  Ex E0 zg (Ad up u v (LL (jD (j+1) qs)) L j .u) (.norm,Ad up (u % (v*4294967296 ^ j)) v (LL (jD j (u / (v*4294967296 ^ j)::qs))) L ((j:Int)-1) .u):=by
 have hv0:0<v:=Ql1 (Qt0 ae) hv;have hw:0<v*4294967296 ^ j:=Xi2 hv0 (Qt0 ae);have lv:=zA hv hv2;have hdig:=Q3 hv hu;have hd32:u / (v*4294967296 ^ j)<4294967296:=by rw[Qt1 hw,Qm1];exact hu
 have hu2:u<4294967296 ^ (j+k+2):=by
  refine Ql1 hu ?_;rw[show j+k+2=(k+1)+j+1 by omega,Qn1,Qx2];exact Qh2 _ (Qh2 _ ae)
 have lw:(enc (v*4294967296 ^ j*4294967295)).length<=100000000:=by
  refine Qe2 (fG (k:=(k+1)+j+1) ?_) ae;rw[Qn1,Qx2];exact Q90 (Xa2 _ (show 4294967295<=4294967296 by omega)) (Q20 (Q20 hv2 (Qt0 ae)) ae)
 have aaN:=JV up u v k L j (LL (jD (j+1) qs)) hv hv2 ae ae lu hu2;have ad5:=NI up u v L j (min (u / 4294967296 ^ (j+k) / (v / 4294967296 ^ k)) 4294967295) (LL (jD (j+1) qs)) ae (Nat.min_le_right ..) ae;have aaO:=JU up u v L j (u / (v*4294967296 ^ j)) (LL (jD (j+1) qs)) hv0 ae lu ae lw rfl _ hdig (Nat.min_le_right ..);have hmul:v*4294967296 ^ j*(u / (v*4294967296 ^ j))<=u:=Nat.mul_div_le u _;obtain⟨n1,hm⟩:=(zY (enc u) (enc (v*4294967296 ^ j*(u / (v*4294967296 ^ j)))) ae (bH hmul) (aU _) (aU _) (by rw[aV,aV];exact hmul)).get;have hmod:u-v*4294967296 ^ j*(u / (v*4294967296 ^ j))=u % (v*4294967296 ^ j):=by
  have:=Xr2 u (v*4294967296 ^ j);omega
 rw[aV,aV,hmod]at hm;have hz:=L6 qs j;have hset:=GG qs j (u / (v*4294967296 ^ j));have hlen:=qJ qs (j+1);have hlv:(LL (enc v)).length=k+1:=by simp[LL,lv]
 generalize LL (jD (j+1) qs)=es at*;rw[<-hset];clear hset;generalize u / (v*4294967296 ^ j)=d,min (u / 4294967296 ^ (j+k) / (v / 4294967296 ^ k)) 4294967295=g at*;generalize v*4294967296 ^ j=w at*;have hjL:j<L:=ae;have hz2:=idx hz;have w1:av .i64 ((j:Int)+((k+1:Nat):Int))=((j+k+1:Nat):Int):=by rw[wrap_i64 ae];omega
 have w2:av .u32 (d:Int)=(d:Int):=wrap_u32 ae;have w3:av .i64 ((j:Int)-1)=(j:Int)-1:=wrap_i64 ae;have w4:(0:Int)<=(j:Int):=ae;show Ex E0 (.seq zg.l (.seq (.block 1 (.seq zg.r.l.bl.l (.seq zg.r.l.bl.r.l (.seq zg.r.l.bl.r.r.l (.seq (.block 2 (.loop oiB)) (.seq zg.r.l.bl.r.r.r.r.l zg.r.l.bl.r.r.r.r.r)))))) zg.r.r)) _ _;refine Ex.seq (st1:=Ad up u v es L j (dB true)) (Ex.of (n:=40) ?_) (Ex.seq (st1:=Ad up (u % w) v (es.set j (.v (.int .u32 (d:Int)))) L j .u) (Ex.fF (Ex.seq (Ex.of (n:=40) ?_) (Ex.seq aaN (Ex.seq ad5 (Ex.seq aaO.block
  (Ex.seq (st1:={Ad up (u % w) v es L j .u with vars:=[.u,.u,.ls (.loc 0) 0 1 0 L,.u,.u,.u,dI up,.d (LD (enc (u % w))),.d (LD (enc v)),dI j,.u,.d (.v (.int .u64 d)),.u,.u,.u,.u]}) (Ex.of (n:=n1+40) ?_) (Ex.of (n:=40) ?_))))))) (Ex.of (n:=40) ?_))
 ·unfold Ad;simp only[LD];generalize LL (enc u)=us at*;generalize LL (enc v)=vs at*;simp[zg,f226,w4]
 ·unfold Ad;simp only[LD];generalize LL (enc u)=us at*;generalize LL (enc v)=vs at*;generalize j+k+1=n at*;generalize k+1=m at*;simp[zg,f226,hlv,w1]
 ·unfold Ad WK;simp only[LD]at hm ⊢;generalize LL (enc u)=us at*;generalize LL (enc v)=vs at*;generalize LL (enc (u % w))=ms at*;generalize LL (enc (w*d))=ps at*;simp[zg,f226,hm]
 ·unfold Ad;simp only[LD];generalize LL (enc (u % w))=us at*;generalize LL (enc v)=vs at*;simp[zg,f226,hz,hz2,w2,w4,hjL,hlen]
 ·unfold Ad;simp only[LD];generalize LL (enc (u % w))=us at*;generalize LL (enc v)=vs at*;simp[zg,f226,w3]
theorem NJ (up u0 v k L:Nat)(hv:4294967296 ^ k<=v)(hv2:v<4294967296 ^ (k+1))(hL:L<=50000000)(hk:k<=1000000)(lu:(enc u0).length<=100000000)(hu:u0<v*4294967296 ^ L) :
  ∃ r,Ex E0 (.loop zg) (Ad up u0 v (LL (jD L [])) L ((L:Int)-1) .u) r /\
   ∃ qs,bP qs/\qs.length=L/\val qs=u0 / v/\r=(.exit 0,Ad up (u0 % v) v (LL qs) L (-1) (dB false)):=by
 have hv0:0<v:=Ql1 (Qt0 ae) hv;refine Ex.inv (S:=fun t:Nat × Nat × List Nat=>Ad up t.2.1 v (LL (jD t.1 t.2.2)) L ((t.1:Int)-1) .u) (fun t=>t.1)
  (fun t=>t.1+t.2.2.length=L/\bP t.2.2/\t.2.1<v*4294967296 ^ t.1/\u0=val t.2.2*4294967296 ^ t.1*v+t.2.1) _ ?_ (L,u0,[]) ?_
 ·rintro⟨j,u,qs⟩ ⟨h1,h2,h3,h4⟩;simp only at h1 h2 h3 h4;cases j with
  | zero =>
   simp only[Nat.pow_zero,Xr0]at h3 h4;have hd:u0 / v=val qs:=by rw[h4,Qm1,Xl0 hv0,Q82 h3];rfl
   have hm:u0 % v=u:=by rw[h4,Qm1,X01,Qw1 h3]
   refine .inr ⟨_,?_,?_,qs,h2,ae,hd.symm,rfl⟩
   ·rw[hm];have:=Q5 up u v L (LL qs);simpa[jD] using Ex.of this
   ·simp
  | succ j =>
   have hu0:u<=u0:=ae;have hw:0<v*4294967296 ^ j:=Xi2 hv0 (Qt0 ae);have h3':u<v*4294967296 ^ j*4294967296:=by rw[Q32,<-Qn1];exact h3
   have hr:=JW up u v k L j qs hv hv2 ae hk (Qe2 (bH hu0) lu) h3' ae;refine .inl ⟨(j,u % (v*4294967296 ^ j),u / (v*4294967296 ^ j)::qs),?_,aC,?_,?_,?_,?_⟩
   ·simp only;rw[show(((j+1:Nat):Int)-1)=(j:Int) by omega];exact hr
   ·simp only[Qf2];omega
   ·intro y hy;rcases Qg1.1 hy with rfl|hy
    ·rw[Qt1 hw,Qm1];exact h3'
    ·exact h2 y hy
   ·exact Qu0 _ hw
   ·simp only[val];have e:u0=val qs*4294967296*(v*4294967296 ^ j)+u:=by
     rw[h4,Qn1]
     congr 1
     generalize 4294967296 ^ j=P;grind
    rw[Q32,Qm1 _ v];exact Q4 e
 ·refine⟨aC,?_,by simpa using hu,by simp[val]⟩;intro x hx;cases hx
theorem JX {y:Nat}(hy:0<y):4294967296 ^ ((enc y).length-1)<=y:=by
 rcases Qg2 y (4294967296 ^ ((enc y).length-1)) with h|h
 ·have h1:=fG h;have h2:enc y≠[]:=by intro e;rw[dO]at e;omega
  have h3:0<(enc y).length:=Xf1.2 h2;omega
 ·exact h
theorem xk (y:Nat):y<4294967296 ^ (enc y).length:=by
 have:=nH (aU y)
 rwa [aV]at this
theorem EW (x y:Nat)(hy:0<y)(lx:(enc x).length<=1000000)(ly:(enc y).length<=1000000) :
  Ca E0 ZA [.d (LD (enc x)),.d (LD (enc y))] (.d (.t [LD (enc (x / y)),LD (enc (x % y))]),none):=by
 by_cases hsm:y<4294967296
 ·have:=QW (enc x) y ae (aU x) hsm hy
  rwa [aV]at this
 ·have aia:0<(enc y).length:=Xf1.2 (by intro e;rw[dO]at e;omega);obtain⟨k,hk⟩:∃ k,(enc y).length=k+1:=⟨(enc y).length-1,ae⟩
  have h1:4294967296 ^ k<=y:=by have:=JX hy;rw[hk]at this;simpa using this
  have h2:y<4294967296 ^ (k+1):=by have:=xk y;rwa [hk]at this
  have hk1:1<=k:=by
   rcases Qq0 k with rfl|h
   ·simp at h2;omega
   ·exact h
  obtain⟨lo,htop,hlo⟩:=WJ k h1 h2;obtain⟨g1,g2⟩:=Q0 h1 h2;have ht1:y / 4294967296 ^ k<4294967296:=by rw[Qt1 (Qt0 ae),Qm1,<-Qn1];exact h2
  have hbl:=zz ht1;have EY:=fun m=>JR m lo (y / 4294967296 ^ k) ht1 ae
  rw[<-htop,hlo]at EY;generalize hbe:fH (y / 4294967296 ^ k)=bl at*;generalize hup:32-bl=up at*;have ad6:up<=32:=ae;obtain⟨n1,hlx⟩:=(zx (enc x) up ae ae (aU x)).any;obtain⟨n2,hly⟩:=(zx (enc y) up ae ae (aU y)).any;rw[aV]at hlx hly;have hp:0<2 ^ up:=Qt0 ae;have lu:(enc (x*2 ^ up)).length<=(enc x).length+1:=by
   refine fG ?_;rw[Qn1];have e1:=xk x;have e2:2 ^ up<=4294967296:=by
    have:=Qu2 (n:=2) ae ad6;simpa using this
   exact Ql1 (Q20 e1 hp) (Xa2 _ e2)
  have hq:(x*2 ^ up) / (y*2 ^ up)=x / y:=Nat.mul_div_mul_right x y hp;have hr:(x*2 ^ up) % (y*2 ^ up)=x % y*2 ^ up:=Nat.mul_mod_mul_right (2 ^ up) x y;have hr2:x % y*2 ^ up / 2 ^ up=x % y:=Nat.mul_div_cancel _ hp;have hlv:(enc (y*2 ^ up)).length=k+1:=zA g2 g1;have lr:(enc (x % y*2 ^ up)).length<=100000000:=Qe2 (bH (Qh2 _ (Nat.mod_le x y))) ae;obtain⟨n3,EZ⟩:=(QY (enc (x % y*2 ^ up)) up ae lr (aU _)).any;rw[aV,hr2]at EZ;have hu0:x*2 ^ up<y*2 ^ up*4294967296 ^ ((enc (x*2 ^ up)).length-k):=by
   refine Ql1 (xk (x*2 ^ up)) ?_;refine Qe2 ?_ (Qh2 _ g2);rw[<-Qx2];exact Qu2 ae ae
  obtain⟨r,hloop,qs,hqs,hql,hqv,rfl⟩:=NJ up (x*2 ^ up) (y*2 ^ up) k ((enc (x*2 ^ up)).length-k) g2 g1 ae ae ae hu0;rw[hq]at hqv;rw[hr]at hloop;obtain⟨n4,hc⟩:=(gQ qs ae).any;rw[b_ hqs,hqv]at hc;replace hlx:=hlx (n1+n2+n3+n4) ae;replace hly:=hly (n1+n2+n3+n4) ae;replace EZ:=EZ (n1+n2+n3+n4) ae;replace hc:=hc (n1+n2+n3+n4) ae;generalize n1+n2+n3+n4=N at*;have hlY:(LL (enc y)).length=k+1:=by simp[LL,hk]
  have hlV:(LL (enc (y*2 ^ up))).length=k+1:=by simp[LL,hlv]
  have hlU:(LL (enc (x*2 ^ up))).length=(enc (x*2 ^ up)).length:=by simp[LL]
  have hlQ:(LL qs).length=(enc (x*2 ^ up)).length-k:=by simp[LL,hql]
  have hz:LL (jD ((enc (x*2 ^ up)).length-k) [])=List.replicate ((enc (x*2 ^ up)).length-k) (.v (.int .u32 0)):=by simp[LL,jD]
  have hLb:(enc (x*2 ^ up)).length-k<=2000000:=ae;have hmax:∃ z:Int,z=((enc (x*2 ^ up)).length:Int)-((k+1:Nat):Int)+1/\((z > 0/\z=(((enc (x*2 ^ up)).length-k:Nat):Int))\/(¬ z > 0/\(enc (x*2 ^ up)).length-k=0)):=⟨_,rfl,ae⟩
  obtain⟨z,hze,hzc⟩:=hmax;have lU:(enc (x*2 ^ up)).length<=1000001:=ae;have w1:av .i64 (32*((k+1:Nat):Int))=((32*(k+1):Nat):Int):=by rw[wrap_i64 ae];omega
  have w2:av .i64 (((32*(k+1):Nat):Int)-((32*k+bl:Nat):Int))=(up:Int):=by rw[wrap_i64 ae];omega
  have w3:av .i64 (((enc (x*2 ^ up)).length:Int)-((k+1:Nat):Int))=((enc (x*2 ^ up)).length:Int)-((k+1:Nat):Int):=wrap_i64 ae;have w4:av .i64 (((enc (x*2 ^ up)).length:Int)-((k+1:Nat):Int)+1)=z:=by rw[wrap_i64 ae,hze]
  have w5:av .i64 ((((enc (x*2 ^ up)).length-k:Nat):Int)-1)=(((enc (x*2 ^ up)).length-k:Nat):Int)-1:=wrap_i64 ae;have hne:(((k+1:Nat):Int)==1)=false:=by simp;omega
  clear hu0 g1 g2 hq hr hr2 lr hbe htop hlo hql hqs hqv h1 h2 ht1 hbl;generalize hX:enc (x*2 ^ up)=eX at*;generalize hY:enc (y*2 ^ up)=eY at*;refine Ca.body (o:=.ret) (st1:=(st0 (.u::.u::.d (LD (enc (x / y)))::.d (LD (enc (x % y)))::Nn) [.fU 0 1 (LL qs)])) rfl (k226:E0.fn _=_) rfl ?_ (by intro id h;cases h) ?_
  ·show Ex E0 (.seq yo.body.l (.seq yo.body.r.l (.seq yo.body.r.r.l (.seq yo.body.r.r.r.l (.seq yo.body.r.r.r.r.l (.seq (.seq yo.body.r.r.r.r.r.l.l (.block 0 (.loop zg))) yo.body.r.r.r.r.r.r)))))) _ _;refine Ex.seq (st1:=(st0 (.d (LD (enc x))::.d (LD (enc y))::JE) [])) (Ex.of (n:=40) ?_)
    (Ex.seq (st1:=(st0 [.d (LD (enc x)),.d (LD (enc y)),.u,.u,.u,.u,.u,.u,.u,.u,.u,.u,.u,dB false,.u,.u] [])) (Ex.of (n:=40) ?_)
    (Ex.seq (st1:=(st0 (.d (LD (enc x))::.d (LD (enc y))::.u::.u::.u::.u::dI up::CK) [])) (Ex.of (n:=200) ?_)
    (Ex.seq (st1:=(st0 (.u::.u::.u::.u::.u::.u::dI up::.d (LD eX)::.d (LD eY)::nO) [])) (Ex.of (n:=N+40) ?_)
    (Ex.seq (st1:=(st0 (.u::.u::.ls (.loc 0) 0 1 0 (eX.length-k)::.u::.u::.u::dI up::.d (LD eX)::.d (LD eY)::nO) [.row 0 1 (LL (jD (eX.length-k) []))])) (Ex.of (n:=40) ?_)
    (Ex.seq (Ex.seq (Ex.of (n:=40) ?_) hloop.block) (Ex.of (n:=N+40) ?_))))))
   ·simp[f226]
   ·simp only[LD];generalize LL (enc x)=xs,LL (enc y)=ys,k+1=m at*;simp[f226,hlY,hne]
   ·simp only[LD]at EY ⊢;generalize LL (enc x)=xs,LL (enc y)=ys,k+1=m at*;generalize 32*m=m32,32*k+bl=kb at*;simp[f226,hlY,EY,w1,w2]
   ·simp only[LD]at hlx hly ⊢;generalize LL (enc x)=xs,LL (enc y)=ys,LL eX=Xs,LL eY=Ys at*;simp[f226,hlx,hly]
   ·have hm1:((eX.length-k:Nat):Int)*4<=1099511627776:=ae;have hm2:((eX.length-k:Nat):Int)<=1099511627776:=ae;rw[hz];generalize eX.length-k=L at*;generalize eX.length=lX at*;simp only[LD];generalize LL eX=Xs,LL eY=Ys,k+1=m at*;rcases hzc with ⟨a,b⟩|⟨a,b⟩
    ·rw[b]at w4 a;replace a:0<L:=ae;simp[f226,hlU,hlV,w3,w4,a,hm1,hm2,most]
    ·subst b;simp[f226,hlU,hlV,w3,w4,a,most]
   ·unfold Ad;simp only[hX,hY,LD];have hlR:(LL (jD (eX.length-k) [])).length=eX.length-k:=by rw[qJ];simp
    generalize LL (jD (eX.length-k) [])=es at*;generalize eX.length-k=L,LL eX=Xs,LL eY=Ys at*;simp[f226,w5]
   ·unfold Ad;simp only[LD]at hc EZ ⊢;clear hloop;generalize LL (enc (x % y*2 ^ up))=rs,LL (enc (y*2 ^ up))=Ys,LL (enc (x / y))=as1 at*;generalize LL (enc (x % y))=as2,eX.length-k=L at*;have htk:(LL qs).take L=LL qs:=Qe0 ae;generalize LL qs=Qs at*;simp[ai.view,f226,hlQ,htk,hc,EZ]
  ·simp[f226,LD,lY]
theorem JY (a b:Nat)(la:(enc a).length<=1000000)(lb:(enc b).length<=1000000)(hb0:0<b):Ex E0 gcB (CW a b .u) (.norm,CW b (a % b) .u):=by
 obtain⟨n0,ho⟩:=(EW a b hb0 la lb).get;refine Ex.of (n:=n0+60) ?_;unfold CW;have hlb:∃ m,(LL (enc b)).length=m+1:=by
  have:0<(enc b).length:=Xf1.2 (by intro e;rw[dO]at e;omega);exact⟨(enc b).length-1,by simp[LL];omega⟩
 obtain⟨m,hlb⟩:=hlb;have hm:0<(m:Int)+1:=ae;simp only[LD]at ho ⊢;generalize LL (enc a)=as',LL (enc b)=bs,LL (enc (a / b))=qs,LL (enc (a % b))=rs at*;simp[gcB,f183,hlb,ho,hm]
theorem NK (a b:Nat)(la:(enc a).length<=1000000)(lb:(enc b).length<=1000000):Ex E0 (.loop gcB) (CW a b .u) (.exit 0,CW (Nat.gcd a b) 0 (dB false)):=by
 induction b using Nat.strongRecOn generalizing a with
 | ind b ih =>
  rcases Qq0 b with rfl|h0
  ·rw[Nat.gcd_zero_right];exact Ex.out (WB a) aC
  ·have hm:=Qu0 a h0;have:=ih (a % b) hm b lb (Qe2 (bH ae) lb);have hg:Nat.gcd a b=Nat.gcd b (a % b):=by rw[Xs1 a b,Nat.gcd_rec b a,Xs1]
   rw[hg];exact Ex.next (JY a b la lb h0) this
theorem Q6 (a b:Nat)(la:(enc a).length<=1000000)(lb:(enc b).length<=1000000):Ca E0 agW [.d (LD (enc a)),.d (LD (enc b))] (.d (LD (enc (Nat.gcd a b))),none):=by
 have hl:=NK a b la lb;generalize Nat.gcd a b=g at*;refine Ca.body (o:=.ret) (st1:=(st0 [.u,.u,.d (LD (enc g)),.u,.u] [])) rfl (aN 183 f183:E0.fn _=_) rfl ?_ (by intro id h;cases h) ?_
 ·show Ex E0 (.seq aaF.body.l (.seq (.block 0 (.loop gcB)) aaF.body.r.r)) _ _;refine Ex.seq (st1:=CW a b .u) (Ex.of (n:=40) ?_) (Ex.seq hl.block (Ex.of (n:=40) ?_))
  ·unfold CW;simp[f183]
  ·unfold CW;simp[f183]
 ·simp[f183,LD]
abbrev agZ:Nat:=182
abbrev ai4:bI:=f182
abbrev aaP:Nat:=109
abbrev ag0:bI:=f109
theorem E5 (n:Nat):CL E0 (n+20) agZ [] []=some (.d (.s 1 [.v (.int .u32 1)]),none):=by
 rw[aB rfl (aN 182 f182:E0.fn _=_) rfl];simp[f182]
theorem Ae:LD (enc 1)=.s 1 [.v (.int .u32 1)]:=by rw[nQ ae ae];rfl
def uh (l:List Nat):Bool:=decide (trim l=l)
theorem L8 (n:Nat):uh (enc n)=true:=by simp[uh,GV]
theorem mV {l:List Nat}(hl:bP l):uh l=true↔l=enc (val l):=by
 unfold uh;rw[decide_eq_true_iff,b_ hl];exact⟨fun h=>h.symm,fun h=>h.symm⟩
theorem yx (m:Nat)(l:List Nat)(hl:l.length<=1000000000):CL E0 (m+30) Ws [.d (LD l)] []=some (dB (uh l),none):=by
 rw[aB rfl (aN 180 f180:E0.fn _=_) rfl];rcases Q72 l with h|⟨b,x,h⟩
 ·rw[h];have:uh []=true:=by simp[uh,trim]
  rw[this];simp[f180,LD,LL]
 ·rw[Q10]at h;rw[h]at hl ⊢;have hlen:(LL (b++[x])).length=b.length+1:=by simp[LL]
  have hget:(LL (b++[x]))[b.length]?=some (.v (.int .u32 (x:Int))):=by simp[LL]
  have hb:(((b.length:Int)+1)==0)=false:=by simp;omega
  have hw:av .i64 (b.length:Int)=(b.length:Int):=wrap_i64 (by simp at hl;omega);have hok:uh (b++[x])=((x:Int) != 0):=by
   unfold uh
   by_cases hx:x=0
   ·subst hx;rw[rT];have h2:=qL b;have h3:¬ trim b=b++[0]:=by
     intro e;rw[e]at h2;simp only[Qb0,Qf2,Qw0]at h2;omega
    simp[h3]
   ·rw[rR b x hx];simp[hx]
  rw[hok];simp only[LD];generalize LL (b++[x])=es at*;have zW:=idx hget;simp[f180,hlen,hget,zW,hb,hw]
def raw (s:Bool)(a b:List Nat):D:=.a [vB s,LD a,LD b]
def dC (s:Bool)(a b:List Nat):Bool :=
 uh a&&uh b&&(if a=[] then !s&&decide (b=[]) else decide (b=[])||(decide (val b≠1)&&decide (Nat.gcd (val a) (val b)=1)))
theorem WL {a:Nat}:(dH a 1 != 0)=decide (a≠1):=by
 unfold dH
 by_cases h:a<1
 ·rw[if_pos h];simp;omega
 ·rw[if_neg h]
  by_cases h2:a=1
  ·simp[h2]
  ·simp[h2]
theorem WM {a:Nat}:(dH a 1==0)=decide (a=1):=by
 unfold dH
 by_cases h:a<1
 ·rw[if_pos h];simp;omega
 ·rw[if_neg h]
  by_cases h2:a=1
  ·simp[h2]
  ·simp[h2]
theorem xm (s:Bool)(a b:List Nat)(la:a.length<=1000000)(lb:b.length<=1000000)(ha:bP a)(hb:bP b):Ca E0 aaP [.d (raw s a b)] (dB (dC s a b),none):=by
 have p1:=fun m=>yx m a ae
 have p2:=fun m=>yx m b ae
 have o1:=E5;unfold dC
 by_cases hoa:uh a=true
 ·by_cases Gm:uh b=true
  ·rw[hoa]at p1 ⊢;rw[Gm]at p2 ⊢
   by_cases hna:a=[]
   ·subst hna;simp only[raw,LD,LL,Qc2]at p1 p2 ⊢
    by_cases hnb:b=[]
    ·subst hnb;refine Ca.bO (n:=60) ?_;rw[aB rfl (k109:E0.fn _=_) rfl];simp only[Qc2]at p2 ⊢;cases s<;>simp[f109,p1]
    ·have hlen:((List.map (fun(x:Nat)=>D.v (Value.int IntKind.u32 (x:Int))) b).length==0)=false:=by simp[hnb]
     refine Ca.bO (n:=60) ?_;rw[aB rfl (k109:E0.fn _=_) rfl];have DK:¬ (List.map (fun(x:Nat)=>D.v (Value.int IntKind.u32 (x:Int))) b)=[]:=by simp[hnb]
     generalize List.map (fun(x:Nat)=>D.v (Value.int IntKind.u32 (x:Int))) b=bs at*;cases s<;>simp[f109,p1,p2,hnb,hlen,DK]
   ·have hla:¬ (LL a)=[]:=by simp[LL,hna]
    by_cases hnb:b=[]
    ·subst hnb;refine Ca.bO (n:=60) ?_;rw[aB rfl (k109:E0.fn _=_) rfl];simp only[raw,LD]at p1 p2 ⊢;generalize LL a=as' at*;simp only[LL,Qc2]at p2 ⊢;simp[f109,p1,p2,hna,hla]
    ·have hlb:¬ (LL b)=[]:=by simp[LL,hnb]
     have ea:=(mV ha).1 hoa;have eb:=(mV hb).1 Gm;have l1:=fG (n:=1) (k:=1) ae;have hg:(enc (Nat.gcd (val a) (val b))).length<=1000000:=by
      refine Qe2 (bH (m:=Nat.gcd (val a) (val b)) (n:=val b) (Xy1 ?_ (Xv0 _ _))) (by rw[<-eb];omega);rcases Qq0 (val b) with h|h
      ·rw[h]at eb;rw[df]at eb;exact absurd eb hnb
      ·exact h
     obtain⟨Kq,_,c1,c2,c3⟩:=((xe b (enc 1) ae ae hb (aU _)).j ((xe (enc (Nat.gcd (val a) (val b))) (enc 1) ae ae (aU _) (aU _)).j ((Q6 (val a) (val b) (by rw[<-ea];omega) (by rw[<-eb];omega)).any))).at 0;generalize Kq=N at*;simp only[aV]at c1 c2;rw[<-ea,<-eb]at c3;rw[Ae]at c1 c2;have e1:=WL (a:=val b);have e2:=WM (a:=Nat.gcd (val a) (val b));refine Ca.bO (n:=N+60) ?_;rw[aB rfl (k109:E0.fn _=_) rfl];rw[if_neg hna];simp only[hnb,decide_false,Xe0,Ql0];rw[<-e1,<-e2];clear e1 e2 ea eb;generalize dH (val b) 1=k1,dH (Nat.gcd (val a) (val b)) 1=k2 at*;simp only[raw,LD]at p1 p2 c1 c2 c3 ⊢;generalize LL a=as',LL b=bs,LL (enc (Nat.gcd (val a) (val b)))=gs at*;cases hk1:(k1 != 0)
     ·simp[f109,p1,p2,hla,hlb,o1,c1,c2,c3,hk1]
     ·simp[f109,p1,p2,hla,hlb,o1,c1,c2,c3,hk1]
  ·simp only[Xp2]at Gm;rw[hoa]at p1 ⊢;rw[Gm]at p2 ⊢;refine Ca.bO (n:=60) ?_;rw[aB rfl (k109:E0.fn _=_) rfl];simp only[raw,LD]at p1 p2 ⊢;generalize LL a=as',LL b=bs at*;simp[f109,p1,p2]
 ·simp only[Xp2]at hoa;rw[hoa]at p1 ⊢;refine Ca.bO (n:=60) ?_;rw[aB rfl (k109:E0.fn _=_) rfl];simp only[raw,LD]at p1 p2 ⊢;generalize LL a=as',LL b=bs at*;simp[f109,p1,p2]
abbrev nOf:Nat:=185
abbrev fOf:bI:=f185
abbrev aaQ:Nat:=230
abbrev ag1:bI:=f230
abbrev ag2:Nat:=187
abbrev ai6:bI:=f187
def sz (n:Nat):Nat:=(enc n).length
theorem yz {n k:Nat}(h:n<4294967296 ^ k):sz n<=k:=fG h
theorem GX (n:Nat):n<4294967296 ^ sz n:=xk n
theorem oG {m n:Nat}(h:m<=n):sz m<=sz n:=bH h
theorem gV (a b:Nat):sz (a*b)<=sz a+sz b:=by
 refine yz ?_;rw[Qx2];have h1:=GX a;have h2:=GX b;exact Q90 (Xa2 a (X02 h2)) (Q20 h1 (Qt0 ae))
theorem JZ (a b:Nat):sz (a+b)<=max (sz a) (sz b)+1:=by
 refine yz ?_;rw[Qn1];have h1:=Ql1 (GX a) (Qu2 (n:=4294967296) ae (Q61 (sz a) (sz b)));have h2:=Ql1 (GX b) (Qu2 (n:=4294967296) ae (Q22 (sz a) (sz b)));omega
theorem J3:sz 1=1:=by unfold sz;rw[nQ ae ae];rfl
def fq (s:Bool)(n d:Nat):D:=.a [vB s,LD (enc n),LD (enc d)]
def qs (x:Rat):Bool:=decide (x.num<0)
def qn (x:Rat):List Nat:=enc x.num.natAbs
def qd (x:Rat):List Nat:=if x.den=1 then [] else enc x.den
def qD (x:Rat):D:=raw (qs x) (qn x) (qd x)
def fqR (x:Rat):D:=fq (qs x) x.num.natAbs x.den
def qz (x:Rat):Nat:=max (sz x.num.natAbs) (sz x.den)
theorem E8 (x:Rat):bP (qn x):=aU _
theorem E9 (x:Rat):bP (qd x):=by
 unfold qd;split
 ·intro y hy;cases hy
 ·exact aU _
theorem Q7 (x:Rat):(qn x).length<=qz x:=Q61 _ _
theorem Q8 (x:Rat):(qd x).length<=qz x:=by
 unfold qd;split
 ·simp
 ·exact Q22 _ _
theorem rU (x:Rat):dC (qs x) (qn x) (qd x)=true:=by
 have hd:=x.den_nz;have hr:Nat.gcd x.num.natAbs x.den=1:=x.reduced;have ok2:uh (qd x)=true:=by
  unfold qd;split
  ·simp[uh,trim]
  ·exact L8 _
 unfold dC;rw[show uh (qn x)=true from L8 _,ok2];simp only[Ql0]
 by_cases h0:qn x=[]
 ·rw[if_pos h0];have hz:x.num.natAbs=0:=dO.1 h0;have hz2:x.num=0:=Xs2.1 hz;rw[hz,Nat.gcd_zero_left]at hr;simp[qs,qd,hz2,hr]
 ·rw[if_neg h0];unfold qd;split
  ·simp
  ·rename_i h1;have e1:val (qn x)=x.num.natAbs:=aV _;simp[aV,e1,hr,h1]
theorem Af (x:Rat)(hx:qz x<=1000000):Ca E0 nOf [.d (qD x)] (.d (fqR x),none):=by
 obtain⟨N,hv⟩:=(xm (qs x) (qn x) (qd x) (Qe2 (Q7 x) hx) (Qe2 (Q8 x) hx) (E8 x) (E9 x)).get;rw[rU]at hv;have o1:=E5;have hn:enc x.num.natAbs=qn x:=rfl;refine Ca.bO (n:=N+60) ?_;rw[aB rfl (aN 185 f185:E0.fn _=_) rfl];simp only[qD,fqR,fq,raw,hn];simp only[raw]at hv;generalize qs x=s at*
 by_cases hd:x.den=1
 ·have e:qd x=[]:=if_pos hd;rw[e]at hv ⊢;rw[hd,Ae];simp only[LD]at hv ⊢;generalize LL (qn x)=ns at*;simp only[LL,Qc2]at hv ⊢;simp[f185,hv,o1]
 ·have e:qd x=enc x.den:=if_neg hd;have DK:¬ LL (enc x.den)=[]:=by
   have:=x.den_nz;simp[LL,dO,this]
  rw[e]at hv ⊢;simp only[LD]at hv ⊢;generalize LL (qn x)=ns,LL (enc x.den)=ds at*;simp[f185,hv,DK]
theorem Ag (m:Nat)(l:List Nat)(h0:l≠[])(hl:l.length<=100000000):CL E0 (m+30) aaQ [.d (LD l)] []=some (.d (LD l),none):=by
 rw[aB rfl (aN 230 f230:E0.fn _=_) rfl];obtain⟨x,r,rfl⟩:∃ x r,l=x::r:=by cases l with|nil=>exact absurd rfl h0|cons x r=>exact⟨x,r,rfl⟩
 simp only[LD,LL,Qe1];have hlen:(List.map (fun(x:Nat)=>D.v (Value.int IntKind.u32 (x:Int))) r).length<=100000000:=by simp at hl ⊢;omega
 have hone:∀ y ∈ List.map (fun(x:Nat)=>D.v (Value.int IntKind.u32 (x:Int))) r,D.one y=true:=by
  intro y hy;obtain⟨z,_,rfl⟩:=Qj2.1 hy;rfl
 generalize List.map (fun(x:Nat)=>D.v (Value.int IntKind.u32 (x:Int))) r=es at*;have hm:(es.length+1)*4<=1099511627776:=ae;have hm2:(es.length+1)<=1099511627776:=ae;simp[f230,ai.view,most,hm,hm2]
def tq (s:Bool)(n:Nat):Int:=if s then -(n:Int) else n
def xn (s:Bool)(n d:Nat):Rat:=mkRat (tq s n) d
theorem ui (s:Bool)(n:Nat):(tq s n).natAbs=n:=by cases s<;>simp[tq]
theorem rV {s:Bool}{n d:Nat}(hd:0<d):(xn s n d).den=d / Nat.gcd n d:=by
 unfold xn;rw[Rat.den_mkRat,if_neg ae,ui,Xs1]
theorem L9 {s:Bool}{n d:Nat}(hd:0<d):(xn s n d).num=tq s (n / Nat.gcd n d):=by
 unfold xn;rw[Rat.num_mkRat,if_neg ae,ui,Xs1];have hg:Nat.gcd n d ∣ n:=Nat.gcd_dvd_left n d;cases s
 ·simp[tq]
 ·simp only[tq,if_true];rw[Int.neg_ediv_of_dvd (by exact_mod_cast hg)];simp
theorem rW {s:Bool}{n d:Nat}(hd:0<d):(xn s n d).num.natAbs=n / Nat.gcd n d:=by rw[L9 hd,ui]
theorem Ah {s:Bool}{n d:Nat}(hd:0<d):qs (xn s n d)=if n=0 then false else s:=by
 have hg:0<Nat.gcd n d:=Xt0 n hd;unfold qs;rw[L9 hd]
 by_cases h:n=0
 ·subst h;cases s<;>simp[tq]
 ·rw[if_neg h];have:=Xw2 (Xy1 ae (Nat.gcd_dvd_left n d)) hg;cases s
  ·simp[tq];omega
  ·simp only[tq,if_true];simp;omega
theorem J4 {s:Bool}{n d:Nat}(hd:0<d):qz (xn s n d)<=max (sz n) (sz d):=by
 unfold qz;rw[rW hd,rV hd];have h1:=oG (Xl1 n (Nat.gcd n d));have h2:=oG (Xl1 d (Nat.gcd n d));omega
theorem E_ {s:Bool}{n d:Nat}(ln:sz n<=1000000)(ld:sz d<=1000000)(hd0:0<d):Ca E0 ag2 [.d (fq s n d)] (.d (qD (xn s n d)),none):=by
 have o1:=E5;unfold qD qn qd;rw[Ah hd0,rW hd0,rV hd0];unfold sz at ln ld;rcases Qq0 n with rfl|hn0
 ·have e2:d / Nat.gcd 0 d=1:=by rw[Nat.gcd_zero_left];exact Nat.div_self hd0
  rw[e2];refine Ca.bO (n:=60) ?_;rw[aB rfl (k187:E0.fn _=_) rfl];simp only[fq,raw,Nat.zero_div,df,if_true,LD,LL,Qc2];generalize List.map (fun(x:Nat)=>D.v (Value.int IntKind.u32 (x:Int))) (enc d)=ds at*;simp[f187]
 ·rw[if_neg ae];have hg:0<Nat.gcd n d:=Xt0 n hd0;have lg:(enc (Nat.gcd n d)).length<=1000000:=Qe2 (bH (Xy1 hd0 (Xv0 n d))) ld;obtain⟨n1,c1⟩:=(Q6 n d ln ld).any;have l1:=fG (n:=1) (k:=1) ae;obtain⟨n2,c2⟩:=(xe (enc (Nat.gcd n d)) (enc 1) ae ae (aU _) (aU _)).any;obtain⟨n3,c3⟩:=(EW n (Nat.gcd n d) hg ln lg).any;obtain⟨n4,c4⟩:=(EW d (Nat.gcd n d) hg ld lg).any;have ldl:(enc (d / Nat.gcd n d)).length<=1000000:=Qe2 (bH (Xl1 _ _)) ld;obtain⟨n5,c5⟩:=(xe (enc (d / Nat.gcd n d)) (enc 1) ae ae (aU _) (aU _)).any;replace c1:=c1 (n1+n2+n3+n4+n5) ae;replace c2:=c2 (n1+n2+n3+n4+n5) ae;replace c3:=c3 (n1+n2+n3+n4+n5) ae;replace c4:=c4 (n1+n2+n3+n4+n5) ae;replace c5:=c5 (n1+n2+n3+n4+n5) ae;generalize n1+n2+n3+n4+n5=N at*;simp only[aV]at c2 c5;rw[Ae]at c2 c5;have k1:=fun m=>Ag m (enc n) (by rw[Ne,dO];omega) ae
  have k2:=fun m=>Ag m (enc d) (by rw[Ne,dO];omega) ae
  have hln:¬ LL (enc n)=[]:=by
   have:¬ n=0:=ae;simp[LL,dO,this]
  refine Ca.bO (n:=N+80) ?_;rw[aB rfl (k187:E0.fn _=_) rfl]
  by_cases h1:Nat.gcd n d=1
  ·have e1:dH 1 1=0:=by simp[dH]
   rw[h1]at c1 c2 c5 ⊢;rw[Xj0]at c5;rw[Xj0,Xj0];rw[Ae]at c1 c2;rw[e1]at c2
   by_cases hd1:d=1
   ·have e2:dH d 1=0:=by rw[hd1];simp[dH]
    rw[e2]at c5;rw[if_pos hd1];simp only[fq,raw,LD]at c1 c2 c5 k1 k2 ⊢;generalize LL (enc n)=ns,LL (enc d)=ds at*;simp only[LL,Qc2];simp[f187,o1,c1,c2,c5,k1,k2,hln]
   ·have e2:dH d 1=1:=by unfold dH;rw[if_neg ae,if_neg ae]
    rw[e2]at c5;rw[if_neg hd1];simp only[fq,raw,LD]at c1 c2 c5 k1 k2 ⊢;generalize LL (enc n)=ns,LL (enc d)=ds at*;simp[f187,o1,c1,c2,c5,k1,k2,hln]
  ·have e1:dH (Nat.gcd n d) 1=1:=by unfold dH;rw[if_neg ae,if_neg h1]
   rw[e1]at c2;have hdv:Nat.gcd n d ∣ d:=Xv0 n d;generalize Nat.gcd n d=g at*
   by_cases hd1:d / g=1
   ·have e2:dH (d / g) 1=0:=by rw[hd1];simp[dH]
    rw[e2]at c5;rw[if_pos hd1];generalize d / g=dd,n / g=nn,n % g=m1,d % g=m2 at*;simp only[fq,raw,LD]at c1 c2 c3 c4 c5 k1 k2 ⊢;generalize LL (enc n)=ns,LL (enc d)=ds,LL (enc g)=gs at*;generalize LL (enc nn)=q1,LL (enc dd)=q2,LL (enc m1)=x1,LL (enc m2)=x2 at*;simp only[LL,Qc2];simp[f187,o1,c1,c2,c3,c4,c5,k1,k2,hln]
   ·have e2:dH (d / g) 1=1:=by
     have:0<d / g:=Xw2 (Xy1 hd0 hdv) hg;unfold dH;rw[if_neg ae,if_neg hd1]
    rw[e2]at c5;rw[if_neg hd1];generalize d / g=dd,n / g=nn,n % g=m1,d % g=m2 at*;simp only[fq,raw,LD]at c1 c2 c3 c4 c5 k1 k2 ⊢;generalize LL (enc n)=ns,LL (enc d)=ds,LL (enc g)=gs at*;generalize LL (enc nn)=q1,LL (enc dd)=q2,LL (enc m1)=x1,LL (enc m2)=x2 at*;simp[f187,o1,c1,c2,c3,c4,c5,k1,k2,hln]
abbrev aaR:Nat:=186
abbrev ag3:bI:=f186
abbrev ad9:Nat:=232
abbrev aif:bI:=f232
abbrev ag4:Nat:=114
abbrev ai8:bI:=f114
abbrev ag5:Nat:=191
abbrev ai9:bI:=f191
theorem xw {a b:Nat}(ha:sz a<=1000000)(hb:sz b<=1000000):Ca E0 QT [.d (LD (enc a)),.d (LD (enc b))] (.d (LD (enc (a*b))),none):=by
 unfold sz at ha hb;have:=GK (enc a) (enc b) ae ae (aU _) (aU _);simpa only[aV] using this
theorem Q9 {a b:Nat}(ha:sz a<=1000000)(hb:sz b<=1000000):Ca E0 Zz [.d (LD (enc a)),.d (LD (enc b))] (.d (LD (enc (a+b))),none):=by
 unfold sz at ha hb;have:=Wz (enc a) (enc b) ae ae (aU _) (aU _);simpa only[aV] using this
theorem DL {a b:Nat}(ha:sz a<=1000000)(hb:b<=a):Ca E0 QO [.d (LD (enc a)),.d (LD (enc b))] (.d (LD (enc (a-b))),none):=by
 unfold sz at ha;have:=zY (enc a) (enc b) ae (bH hb) (aU _) (aU _) (by simpa only[aV] using hb);simpa only[aV] using this
theorem WN {a b:Nat}(ha:sz a<=1000000)(hb:sz b<=1000000):Ca E0 aaA [.d (LD (enc a)),.d (LD (enc b))] (dI (dH a b),none):=by
 unfold sz at ha hb;have:=xe (enc a) (enc b) ae ae (aU _) (aU _);simpa only[aV] using this
theorem WO (s:Bool)(n d:Nat):Ca E0 ad9 [.d (fq s n d)] (.d (fq (!s) n d),none):=by
 refine Ca.bO (n:=60) ?_;rw[aB rfl (aN 232 f232:E0.fn _=_) rfl];simp only[fq,LD];generalize LL (enc n)=ns;generalize LL (enc d)=ds;simp[f232]
def oH (s1:Bool)(a:Nat)(s2:Bool)(b:Nat):Bool:=if s1=s2 then s1 else if b<=a then s1 else s2
def nJ (s1:Bool)(a:Nat)(s2:Bool)(b:Nat):Nat:=if s1=s2 then a+b else if b<=a then a-b else b-a
theorem ve {s1 s2:Bool}{a b:Nat}:sz (nJ s1 a s2 b)<=max (sz a) (sz b)+1:=by
 unfold nJ;split
 ·exact JZ a b
 ·split
  ·have:=oG (Nat.sub_le a b);omega
  ·have:=oG (Nat.sub_le b a);omega
theorem L_ (s1 s2:Bool)(a b:Nat):tq (oH s1 a s2 b) (nJ s1 a s2 b)=tq s1 a+tq s2 b:=by
 unfold oH nJ
 by_cases h:s1=s2
 ·subst h;simp only[if_true];cases s1<;>simp[tq]<;>omega
 ·rw[if_neg h,if_neg h]
  by_cases hab:b<=a
  ·rw[if_pos hab,if_pos hab];cases s1<;>cases s2<;>simp_all[tq]<;>omega
  ·rw[if_neg hab,if_neg hab];cases s1<;>cases s2<;>simp_all[tq]<;>omega
theorem GY (s1 s2:Bool){n1 d1 n2 d2:Nat}(h1:sz n1<=200000)(h2:sz d1<=200000)(h3:sz n2<=200000)(h4:sz d2<=200000) :
  Ca E0 aaR [.d (fq s1 n1 d1),.d (fq s2 n2 d2)] (.d (fq (oH s1 (n1*d2) s2 (n2*d1)) (nJ s1 (n1*d2) s2 (n2*d1)) (d1*d2)),none):=by
 have b1:=gV n1 d2;have b2:=gV n2 d1;obtain⟨k1,t1⟩:=(xw (a:=n1) (b:=d2) ae ae).any;obtain⟨k2,t2⟩:=(xw (a:=n2) (b:=d1) ae ae).any;obtain⟨k3,t3⟩:=(xw (a:=d1) (b:=d2) ae ae).any;generalize n1*d2=a,n2*d1=b,d1*d2=d at*;obtain⟨k4,t4⟩:=(Q9 (a:=a) (b:=b) ae ae).any;obtain⟨k5,t5⟩:=(WN (a:=a) (b:=b) ae ae).any
 by_cases hs:s1=s2
 ·subst hs;replace t1:=t1 (k1+k2+k3+k4) ae;replace t2:=t2 (k1+k2+k3+k4) ae;replace t3:=t3 (k1+k2+k3+k4) ae;replace t4:=t4 (k1+k2+k3+k4) ae;generalize k1+k2+k3+k4=N at*;refine Ca.bO (n:=N+80) ?_;rw[aB rfl (k186:E0.fn _=_) rfl];simp only[fq,oH,nJ,if_true,LD]at*;generalize LL (enc n1)=x1,LL (enc n2)=x2,LL (enc d1)=x3,LL (enc d2)=x4,LL (enc (a+b))=x5,LL (enc a)=x6,LL (enc b)=x7 at*;generalize LL (enc d)=x8 at*;simp[f186,t1,t2,t3,t4]
 ·have hbq:(s1==s2)=false:=by simpa using hs
  by_cases hab:b<=a
  ·obtain⟨k6,t6⟩:=(DL (a:=a) (b:=b) ae hab).any;replace t1:=t1 (k1+k2+k3+k5+k6) ae;replace t2:=t2 (k1+k2+k3+k5+k6) ae;replace t3:=t3 (k1+k2+k3+k5+k6) ae;replace t5:=t5 (k1+k2+k3+k5+k6) ae;replace t6:=t6 (k1+k2+k3+k5+k6) ae;generalize k1+k2+k3+k5+k6=N at*;have hc:(0:Int)<=dH a b:=by unfold dH;rw[if_neg ae];split<;>omega
   refine Ca.bO (n:=N+80) ?_;rw[aB rfl (k186:E0.fn _=_) rfl];simp only[fq,oH,nJ,if_neg hs,if_pos hab,LD]at*;generalize dH a b=cc,LL (enc n1)=x1,LL (enc n2)=x2,LL (enc d1)=x3,LL (enc d2)=x4,LL (enc (a-b))=x5,LL (enc a)=x6,LL (enc b)=x7 at*;generalize LL (enc d)=x8 at*;simp[f186,t1,t2,t3,t5,t6,hbq,hc]
  ·obtain⟨k6,t6⟩:=(DL (a:=b) (b:=a) ae ae).any;replace t1:=t1 (k1+k2+k3+k5+k6) ae;replace t2:=t2 (k1+k2+k3+k5+k6) ae;replace t3:=t3 (k1+k2+k3+k5+k6) ae;replace t5:=t5 (k1+k2+k3+k5+k6) ae;replace t6:=t6 (k1+k2+k3+k5+k6) ae;generalize k1+k2+k3+k5+k6=N at*;have hc:dH a b=-1:=by unfold dH;rw[if_pos ae]
   rw[hc]at t5;refine Ca.bO (n:=N+80) ?_;rw[aB rfl (k186:E0.fn _=_) rfl];simp only[fq,oH,nJ,if_neg hs,if_neg hab,LD]at*;generalize LL (enc n1)=x1,LL (enc n2)=x2,LL (enc d1)=x3,LL (enc d2)=x4,LL (enc (b-a))=x5,LL (enc a)=x6,LL (enc b)=x7 at*;generalize LL (enc d)=x8 at*;simp[f186,t1,t2,t3,t5,t6,hbq]
theorem rX (x:Rat):tq (qs x) x.num.natAbs=x.num:=by
 unfold tq qs
 by_cases h:x.num<0
 ·rw[if_pos (by simpa using h)];omega
 ·rw[if_neg (by simpa using h)];omega
theorem WQ (s1 s2:Bool)(a b:Nat):tq (s1 != s2) (a*b)=tq s1 a*tq s2 b:=by
 cases s1<;>cases s2<;>simp[tq,Int.neg_mul,Int.mul_neg]
theorem den_pos (x:Rat):0<x.den:=Nat.pos_of_ne_zero x.den_nz
theorem Fa (x y:Rat):xn (oH (qs x) (x.num.natAbs*y.den) (qs y) (y.num.natAbs*x.den)) (nJ (qs x) (x.num.natAbs*y.den) (qs y) (y.num.natAbs*x.den)) (x.den*y.den)=x+y:=by
 unfold xn;rw[L_,Rat.add_def']
 congr 1
 have h:=fun(s:Bool) (a b:Nat)=>show tq s (a*b)=tq s a*(b:Int) by cases s<;>simp[tq,Int.neg_mul]
 rw[h,h,rX,rX]
theorem Ma (x y:Rat):xn (oH (qs x) (x.num.natAbs*y.den) (!qs y) (y.num.natAbs*x.den)) (nJ (qs x) (x.num.natAbs*y.den) (!qs y) (y.num.natAbs*x.den)) (x.den*y.den)=x-y:=by
 unfold xn;rw[L_,Rat.sub_def']
 congr 1
 have h:=fun(s:Bool) (a b:Nat)=>show tq s (a*b)=tq s a*(b:Int) by cases s<;>simp[tq,Int.neg_mul]
 have h2:=fun(s:Bool) (a:Nat)=>show tq (!s) a=- tq s a by cases s<;>simp[tq]
 rw[h,h,h2,rX,rX,Int.neg_mul];omega
theorem xx (x y:Rat):qz (x+y)<=qz x+qz y+1:=by
 rw[<-Fa];refine Qe2 (J4 (Xi2 (den_pos x) (den_pos y))) ?_;have h1:=gV x.num.natAbs y.den;have h2:=gV y.num.natAbs x.den;have h3:=gV x.den y.den;have h4:=@ve (qs x) (qs y) (x.num.natAbs*y.den) (y.num.natAbs*x.den);unfold qz;omega
theorem Q_ (x y:Rat):qz (x-y)<=qz x+qz y+1:=by
 rw[<-Ma];refine Qe2 (J4 (Xi2 (den_pos x) (den_pos y))) ?_;have h1:=gV x.num.natAbs y.den;have h2:=gV y.num.natAbs x.den;have h3:=gV x.den y.den;have h4:=@ve (qs x) (!qs y) (x.num.natAbs*y.den) (y.num.natAbs*x.den);unfold qz;omega
theorem Fb (x y:Rat)(hx:qz x<=100000)(hy:qz y<=100000):Ca E0 ag4 [.d (qD x),.d (qD y)] (.d (qD (x+y)),none):=by
 obtain⟨k1,t1⟩:=(Af x ae).any;obtain⟨k2,t2⟩:=(Af y ae).any;have hx1:sz x.num.natAbs<=100000:=Qe2 (Q61 _ _) hx;have hx2:sz x.den<=100000:=Qe2 (Q22 _ _) hx;have hy1:sz y.num.natAbs<=100000:=Qe2 (Q61 _ _) hy;have hy2:sz y.den<=100000:=Qe2 (Q22 _ _) hy;have b1:=gV x.num.natAbs y.den;have b2:=gV y.num.natAbs x.den;have b3:=gV x.den y.den;have b4:=@ve (qs x) (qs y) (x.num.natAbs*y.den) (y.num.natAbs*x.den);obtain⟨k3,t3⟩:=(GY (qs x) (qs y) (n1:=x.num.natAbs) (d1:=x.den) (n2:=y.num.natAbs) (d2:=y.den) ae ae ae ae).any;obtain⟨k5,t5⟩:=(E_ (s:=oH (qs x) (x.num.natAbs*y.den) (qs y) (y.num.natAbs*x.den)) (n:=nJ (qs x) (x.num.natAbs*y.den) (qs y) (y.num.natAbs*x.den)) (d:=x.den*y.den) ae ae (Xi2 (den_pos x) (den_pos y))).any;rw[Fa]at t5;replace t1:=t1 (k1+k2+k3+k5) ae;replace t2:=t2 (k1+k2+k3+k5) ae;replace t3:=t3 (k1+k2+k3+k5) ae;replace t5:=t5 (k1+k2+k3+k5) ae;generalize k1+k2+k3+k5=N,nJ (qs x) (x.num.natAbs*y.den) (qs y) (y.num.natAbs*x.den)=n,oH (qs x) (x.num.natAbs*y.den) (qs y) (y.num.natAbs*x.den)=ss,x.den*y.den=d at*;refine Ca.bO (n:=N+80) ?_;rw[aB rfl (aN 114 f114:E0.fn _=_) rfl];simp only[fqR,fq,qD,raw,LD]at*;generalize qs x=s1,qs y=s2,LL (enc x.num.natAbs)=x1,LL (enc y.num.natAbs)=x2,LL (enc x.den)=x3,LL (enc y.den)=x4,LL (qn x)=z1,LL (qn y)=z2,LL (qd x)=z3,LL (qd y)=z4,LL (enc n)=x7,LL (enc d)=x8,LL (qn (x+y))=x9,LL (qd (x+y))=y1,qs (x+y)=sg at*;simp[f114,t1,t2,t3,t5]
theorem WR (x y:Rat)(hx:qz x<=100000)(hy:qz y<=100000):Ca E0 ag5 [.d (qD x),.d (qD y)] (.d (qD (x-y)),none):=by
 obtain⟨k1,t1⟩:=(Af x ae).any;obtain⟨k2,t2⟩:=(Af y ae).any;have hx1:sz x.num.natAbs<=100000:=Qe2 (Q61 _ _) hx;have hx2:sz x.den<=100000:=Qe2 (Q22 _ _) hx;have hy1:sz y.num.natAbs<=100000:=Qe2 (Q61 _ _) hy;have hy2:sz y.den<=100000:=Qe2 (Q22 _ _) hy;have b1:=gV x.num.natAbs y.den;have b2:=gV y.num.natAbs x.den;have b3:=gV x.den y.den;have b4:=@ve (qs x) (!qs y) (x.num.natAbs*y.den) (y.num.natAbs*x.den);obtain⟨k3,t3⟩:=(GY (qs x) (!qs y) (n1:=x.num.natAbs) (d1:=x.den) (n2:=y.num.natAbs) (d2:=y.den) ae ae ae ae).any;obtain⟨k4,t4⟩:=(WO (qs y) y.num.natAbs y.den).any;obtain⟨k5,t5⟩:=(E_ (s:=oH (qs x) (x.num.natAbs*y.den) (!qs y) (y.num.natAbs*x.den)) (n:=nJ (qs x) (x.num.natAbs*y.den) (!qs y) (y.num.natAbs*x.den)) (d:=x.den*y.den) ae ae (Xi2 (den_pos x) (den_pos y))).any;rw[Ma]at t5;replace t1:=t1 (k1+k2+k3+k4+k5) ae;replace t2:=t2 (k1+k2+k3+k4+k5) ae;replace t3:=t3 (k1+k2+k3+k4+k5) ae;replace t4:=t4 (k1+k2+k3+k4+k5) ae;replace t5:=t5 (k1+k2+k3+k4+k5) ae;generalize k1+k2+k3+k4+k5=N,nJ (qs x) (x.num.natAbs*y.den) (!qs y) (y.num.natAbs*x.den)=n,oH (qs x) (x.num.natAbs*y.den) (!qs y) (y.num.natAbs*x.den)=ss,x.den*y.den=d at*;refine Ca.bO (n:=N+80) ?_;rw[aB rfl (aN 191 f191:E0.fn _=_) rfl];simp only[fqR,fq,qD,raw,LD]at*;generalize (!qs y)=s3,qs x=s1 at*;generalize qs y=s2,LL (enc x.num.natAbs)=x1,LL (enc y.num.natAbs)=x2,LL (enc x.den)=x3,LL (enc y.den)=x4,LL (qn x)=z1,LL (qn y)=z2,LL (qd x)=z3,LL (qd y)=z4,LL (enc n)=x7,LL (enc d)=x8,LL (qn (x-y))=x9,LL (qd (x-y))=y1,qs (x-y)=sg at*;simp[f191,t1,t2,t3,t4,t5]
theorem vg (x:Rat)(hx:qz x<=1000000):Ca E0 134 [.d (qD x)] (dI x.num.sign,none):=by
 obtain⟨N,t⟩:=(Af x hx).get;refine Ca.bO (n:=N+60) ?_;rw[aB rfl (aN 134 f134:E0.fn _=_) rfl];simp only[fqR,fq,qD,raw,LD]at*;have hq:enc x.num.natAbs=qn x:=rfl;rw[hq]at t;have hs:(LL (qn x)=[]/\x.num.sign=0)\/(LL (qn x)≠[]/\qs x=true/\x.num.sign=-1)\/(LL (qn x)≠[]/\qs x=false/\x.num.sign=1):=by
  have hnil:LL (qn x)=[]↔x.num.natAbs=0:=by simp only[LL,X30];exact dO
  rw[Ne,hnil];rcases Q52 x.num 0 with h|h|h
  ·exact .inr (.inl ⟨ae,decide_eq_true h,Qz1 h⟩)
  ·exact .inl ⟨ae,by rw[h];rfl⟩
  ·exact .inr (.inr ⟨ae,decide_eq_false ae,Q51 h⟩)
 generalize LL (qn x)=z1,LL (qd x)=z3,LL (enc x.den)=x3,qs x=s at*;rcases hs with ⟨a,b⟩|⟨a,b,c⟩|⟨a,b,c⟩
 ·rw[b];subst a;simp[f134,t]
 ·rw[c];subst b;simp[f134,t,a]
 ·rw[c];subst b;simp[f134,t,a]
theorem yA (x y:Rat)(hx:qz x<=100000)(hy:qz y<=100000):Ca E0 135 [.d (qD x),.d (qD y)] (dI (x-y).num.sign,none):=by
 obtain⟨k1,t1⟩:=(WR x y hx hy).any;have:=Q_ x y;obtain⟨k2,t2⟩:=(vg (x-y) ae).any;replace t1:=t1 (k1+k2) ae;replace t2:=t2 (k1+k2) ae;generalize k1+k2=N at*;refine Ca.bO (n:=N+80) ?_;rw[aB rfl (aN 135 f135:E0.fn _=_) rfl];generalize (x-y).num.sign=res at*;simp only[qD,raw,LD]at*;generalize LL (qn x)=z1,LL (qn y)=z2,LL (qd x)=z3,LL (qd y)=z4,LL (qn (x-y))=x9,LL (qd (x-y))=y1 at*;simp[f135,t1,t2]
theorem GZ (x:Rat):xn (qs x) x.num.natAbs x.den=x:=by
 unfold xn;rw[rX,Rat.mkRat_self]
theorem WS (x y:Rat)(hy:y≠0):xn (qs x != qs y) (x.num.natAbs*y.den) (x.den*y.num.natAbs)=x / y:=by
 have hyn:y.num≠0:=fun h=>hy (Rat.num_eq_zero.1 h)
 have e1:tq (qs x != qs y) (x.num.natAbs*y.den)=x.num*(y.den*y.num.sign):=by
  have h:=WQ (qs x) (qs y) x.num.natAbs y.den;rw[h,rX]
  congr 1
  rcases Q52 y.num 0 with h|h|h
  ·rw[show qs y=true from decide_eq_true h,Qz1 h];simp[tq]
  ·exact absurd h hyn
  ·rw[show qs y=false from decide_eq_false ae,Q51 h];simp[tq]
 have e2:((x.den*y.num.natAbs:Nat):Int)=x.den*(y.num*y.num.sign):=by
  rw[Int.mul_sign_self];simp
 have hs:((y.num.sign:Int):Rat)≠0:=by
  intro e;have:y.num.sign=0:=by exact_mod_cast e
  exact hyn (Q62.1 this)
 have hxd:((x.den:Int):Rat)≠0:=by have:=x.den_nz;exact_mod_cast this
 have hyd:((y.den:Int):Rat)≠0:=by have:=y.den_nz;exact_mod_cast this
 have ai_:((y.num:Int):Rat)≠0:=by exact_mod_cast hyn
 have hx:x=(x.num:Rat) / ((x.den:Int):Rat):=by
  conv=>lhs;rw[<-Rat.mkRat_self x,Rat.mkRat_eq_div]
  rfl
 have hy':y=(y.num:Rat) / ((y.den:Int):Rat):=by
  conv=>lhs;rw[<-Rat.mkRat_self y,Rat.mkRat_eq_div]
  rfl
 unfold xn;rw[Rat.mkRat_eq_div,e1];have e3:(((x.den*y.num.natAbs:Nat)):Rat)=((x.den*(y.num*y.num.sign):Int):Rat):=by rw[<-e2];rfl
 rw[e3];simp only[Rat.intCast_mul]
 conv=>rhs;rw[hx,hy']
 generalize ((y.num.sign:Int):Rat)=a,((x.den:Int):Rat)=b,((y.den:Int):Rat)=c,((y.num:Int):Rat)=d,((x.num:Int):Rat)=e at*;grind
theorem aaS (x:Rat):qz (-x)=qz x:=by simp[qz]
theorem Mc {n:Nat}(h:n<18446744073709551616):trim [n % 4294967296,n / 4294967296]=enc n:=by
 rw[b_ (by intro y hy;simp at hy;omega)]
 congr 1
 simp[val];omega
theorem G5 (v:Int)(hv:-9223372036854775808<=v/\v<9223372036854775808):Ca E0 227 [dI v] (.d (.t [vB (decide (v<0)),LD (enc v.natAbs)]),none):=by
 obtain⟨n0,hc⟩:=(gQ [v.natAbs % 4294967296,v.natAbs / 4294967296] aC).get;rw[Mc ae]at hc;have hn:v.natAbs<18446744073709551616:=ae;refine Ca.bO (n:=n0+60) ?_;rw[aB rfl (aN 227 f227:E0.fn _=_) rfl];have w2:av .u32 (v.natAbs:Int)=((v.natAbs % 4294967296:Nat):Int):=by rw[dA];omega
 have w3:Int.fdiv (v.natAbs:Int) 4294967296=((v.natAbs / 4294967296:Nat):Int):=by
  rw[Qm2 _ ae];omega
 have w4:av .u32 ((v.natAbs / 4294967296:Nat):Int)=((v.natAbs / 4294967296:Nat):Int):=wrap_u32 ae;have hl:(LL (enc v.natAbs))=LL (enc v.natAbs):=rfl;simp only[LD,LL,Qe1,Qc2]at hc ⊢;generalize List.map (fun(x:Nat)=>D.v (Value.int IntKind.u32 (x:Int))) (enc v.natAbs)=res at*
 by_cases h:v<0
 ·have w1:av .u64 v=v+18446744073709551616:=by rw[fE];omega
  have w5:IntKind.wrap .u64 (-(v+18446744073709551616))=(v.natAbs:Int):=by rw[<-cB,fE];omega
  have hd:decide (v<0)=true:=decide_eq_true h;rw[hd];generalize v.natAbs / 4294967296=hi,v.natAbs % 4294967296=lo at*;generalize v.natAbs=va at*;simp[IntKind.bits,f227,lY,h,w1,w2,w3,w4,w5,hc]
 ·have w1:av .u64 v=(v.natAbs:Int):=by rw[fE];omega
  have hd:decide (v<0)=false:=decide_eq_false h;rw[hd];generalize v.natAbs / 4294967296=hi,v.natAbs % 4294967296=lo at*;generalize v.natAbs=va at*;simp[IntKind.bits,f227,lY,h,w1,w2,w3,w4,hc]
def G6 (a b:Int):Rat:=xn (decide (a<0) != decide (b<0)) a.natAbs b.natAbs
theorem Fe {v:Int}(hv:-9223372036854775808<=v/\v<9223372036854775808):sz v.natAbs<=2:=yz (k:=2) (by
 have:(4294967296:Nat) ^ 2=18446744073709551616:=by rfl
 omega)
theorem WT (a b:Int)(ha:-9223372036854775808<=a/\a<9223372036854775808)(hb:-9223372036854775808<=b/\b<9223372036854775808)(h0:b≠0) :
  Ca E0 184 [dI a,dI b] (.d (.t [qD (G6 a b),vI 0]),none):=by
 have l1:=Fe ha;have l2:=Fe hb;obtain⟨Kq,_,t1,t2,t3⟩:=((G5 a ha).j ((G5 b hb).j ((E_ (s:=decide (a<0) != decide (b<0)) (n:=a.natAbs) (d:=b.natAbs) ae ae ae).any))).at 0;have e:xn (decide (a<0) != decide (b<0)) a.natAbs b.natAbs=G6 a b:=rfl;rw[e]at t3;generalize Kq=N at*;refine Ca.bO (n:=N+80) ?_;rw[aB rfl (aN 184 f184:E0.fn _=_) rfl];have hb0:(b==0)=false:=by simpa using h0
 simp only[fq,qD,raw,LD]at*;generalize LL (qn (G6 a b))=x9,LL (qd (G6 a b))=y1,qs (G6 a b)=sg,LL (enc a.natAbs)=x1,LL (enc b.natAbs)=x2,decide (a<0)=s1,decide (b<0)=s2 at*;simp only[bne]at t3;simp[f184,lY,t1,t2,t3,hb0]
theorem aaT (a b:Int)(h0:b≠0):G6 a b=(a:Rat) / (b:Rat):=by
 have h:∀ v:Int,qs ((v:Int):Rat)=decide (v<0)/\((v:Int):Rat).num=v/\((v:Int):Rat).den=1:=fun v=>⟨by unfold qs;rfl,rfl,rfl⟩
 have hb:((b:Int):Rat)≠0:=by exact_mod_cast h0
 rw[<-WS _ _ hb,(h a).1,(h b).1,(h a).2.1,(h a).2.2,(h b).2.1,(h b).2.2];simp[G6]
end Fi.S
