import Derived.Test.YtgngjdakilfmoaaGreatDoorCA
set_option linter.unusedVariables false
set_option linter.unusedSimpArgs false
noncomputable section
namespace Fi.S
open Go Fi
set_option maxHeartbeats 8000000
theorem Bj {n k:Nat}(h1:4294967296 ^ k<=n)(h2:n<4294967296 ^ (k+1)):(enc n).length=k+1:=by
 have a:=gQ h2;rcases Qg0 k (enc n).length with h|h
 ·omega
 ·exfalso;have h3:=oM (aV n);rw[a_]at h3;have h4:=Qv0 (n:=4294967296) ae h;omega
theorem B_ {u:Nat}(h:0<u):enc u=u % 4294967296::enc (u / 4294967296):=by
 rw[enc,if_neg ae]
theorem wY (n:Nat):∀ (u:Nat),bH (enc u) n=u / 4294967296 ^ n % 4294967296:=by
 induction n with
 | zero =>
  intro u;rcases Qr2 u with rfl|h
  ·simp[dH,bH]
  ·rw[B_ h];simp[bH]
 | succ n ih =>
  intro u;rcases Qr2 u with rfl|h
  ·simp[dH,bH]
  ·have:bH (enc u) (n+1)=bH (enc (u / 4294967296)) n:=by rw[B_ h];simp[bH]
   rw[this,ih,Q02,Qn2,Qk2]
theorem ZJ (k:Nat):∀ {y:Nat},4294967296 ^ k<=y->y<4294967296 ^ (k+1)->∃ lo,enc y=lo++[y / 4294967296 ^ k]/\lo.length=k:=by
 induction k with
 | zero =>
  intro y h1 h2;simp at h1 h2;refine⟨[],?_,rfl⟩;rw[jI ae ae];simp
 | succ k ih =>
  intro y h1 h2;have hp:0<4294967296 ^ (k+1):=Qt2 ae;obtain⟨lo,e,hl⟩:=ih (y:=y / 4294967296) (by rw[X11 ae,<-Qn2];exact h1) (by rw[Qu0 ae,<-Qn2];exact h2);refine⟨y % 4294967296::lo,?_,by simp[hl]⟩;rw[B_ ae,e,Q02,Qn2,Qk2 (4294967296 ^ k)];rfl
theorem JA {x:Nat}(h:0<x):2 ^ (gT x-1)<=x/\x<2 ^ gT x:=by
 unfold gT;rw[if_neg ae];exact⟨Nat.log2_self_le ae,Nat.lt_log2_self⟩
theorem Uw {y k:Nat}(h1:4294967296 ^ k<=y)(h2:y<4294967296 ^ (k+1)) :
  y*2 ^ (32-gT (y / 4294967296 ^ k))<4294967296 ^ (k+1)/\4294967296 ^ k<=y*2 ^ (32-gT (y / 4294967296 ^ k)):=by
 have hp:0<4294967296 ^ k:=Qt2 ae;have ht0:0<y / 4294967296 ^ k:=Xy1 h1 hp;have ht1:y / 4294967296 ^ k<4294967296:=by rw[Qu0 hp,Qk2,<-Qn2];exact h2
 have hb:=JA ht0;have hb2:=Bi ht1;have hy:y<(y / 4294967296 ^ k+1)*4294967296 ^ k:=by
  have:=Nat.lt_mul_div_succ y hp;rw[Qk2];exact this
 generalize y / 4294967296 ^ k=t at*;have hq:2 ^ gT t*2 ^ (32-gT t)=4294967296:=by rw[<-Qz1,show gT t+(32-gT t)=32 by omega]
 have hr:0<2 ^ (32-gT t):=Qt2 ae;generalize 2 ^ (32-gT t)=r,2 ^ gT t=s at*;constructor
 ·rw[Qn2]
  calc y*r<(t+1)*4294967296 ^ k*r:=Q70 hy hr
   _<=s*4294967296 ^ k*r:=Qf0 _ (Qf0 _ hb.2)
   _=4294967296 ^ k*4294967296:=by rw[Nat.mul_right_comm,hq,Qk2]
 ·exact Qc1 h1 (Xl0 _ hr)
theorem Ux {u v k j:Nat}(hv:4294967296 ^ k<=v)(hu:u<v*4294967296 ^ j*4294967296) :
  u / (v*4294967296 ^ j)<=min (u / 4294967296 ^ (j+k) / (v / 4294967296 ^ k)) 4294967295:=by
 have hp:0<4294967296 ^ k:=Qt2 ae;have hp2:0<4294967296 ^ j:=Qt2 ae;have hvt:0<v / 4294967296 ^ k:=Xy1 hv hp;have hw:0<v*4294967296 ^ j:=Xc0 ae hp2;have h1:u / (v*4294967296 ^ j)<4294967296:=by rw[Qu0 hw,Qk2];exact hu
 have h2:=X50 u (v*4294967296 ^ j);have h3:=X50 v (4294967296 ^ k);have:u / (v*4294967296 ^ j)<=u / 4294967296 ^ (j+k) / (v / 4294967296 ^ k):=by
  rw[X11 hvt,X11 (Qt2 ae)];generalize u / (v*4294967296 ^ j)=d,v / 4294967296 ^ k=t at*;rw[Qz1];generalize 4294967296 ^ k=K,4294967296 ^ j=J at*
  calc d*t*(J*K)=d*(t*K*J):=by grind
   _<=d*(v*J):=Q90 _ (Qf0 _ h3)
   _<=u:=h2
 omega
theorem QD {u n:Nat}(h:u<4294967296 ^ (n+2)):bH (enc u) (n+1)*4294967296+bH (enc u) n=u / 4294967296 ^ n/\bH (enc u) (n+1)<4294967296/\bH (enc u) n<4294967296:=by
 rw[wY,wY];have hp:0<4294967296 ^ n:=Qt2 ae;have h1:u / 4294967296 ^ (n+1)=u / 4294967296 ^ n / 4294967296:=by rw[Q02,Qn2]
 have h2:u / 4294967296 ^ n<4294967296*4294967296:=by
  rw[Qu0 hp];rw[Qz1]at h;have e:(4294967296:Nat) ^ 2=4294967296*4294967296:=by rfl
  rw[e,Qk2]at h;exact h
 rw[h1];generalize u / 4294967296 ^ n=t at*;have h3:t / 4294967296<4294967296:=ae;omega
theorem Uy {u w X Q B:Nat}(hB:X=Q*B*w+u):X=(u / w+B*Q)*w+u % w:=by
 have:=Xs1 u w;rw[Qq1,Qk2 B Q,Qk2 (u / w) w];omega
def A7:aF:=zY.body.r.r.r.r.r.l.r.bl.lp
def oiB:aF:=A7.r.l.bl.r.r.r.l.bl.lp
def ZK (up u v:Nat)(es:List D)(L j g p:Nat)(t:FV):St:=(st0 [.u,.u,.ls (.loc 0) 0 1 0 L,.u,.u,.u,dI up,.d (LD (enc u)),.d (LD (enc v)),dI j,.u,.d (.v (.int .u64 g)),.d (LD (enc p)),.u,.u,t] [.row 0 1 es])
theorem Mt (up u v L j d:Nat)(es:List D)(hv:0<v)(hj:j<=100000000)(lu:(enc u).length<=100000000)(lv:(enc v).length<=100000000)(lw:(enc (v*4294967296 ^ j*4294967295)).length<=100000000)
  (hd:d=u / (v*4294967296 ^ j)) (g:Nat) (hg:d<=g) (hg2:g<=4294967295) :
  Ex E0 (.loop oiB) (ZK up u v es L j g (v*4294967296 ^ j*g) .u) (.exit 2,ZK up u v es L j d (v*4294967296 ^ j*d) (dB false)):=by
 have hw:0<v*4294967296 ^ j:=Xc0 hv (Qt2 ae);have hl:=Bg (enc v) (32*j) ae lv (aV _);rw[a_,X52,show(2:Nat) ^ 32=4294967296 by rfl]at hl;generalize v*4294967296 ^ j=w at*;have key:=Ex.inv (E:=E0) (b:=oiB) (S:=fun g=>ZK up u v es L j g (w*g) .u) (fun g=>g) (fun g=>d<=g/\g<=4294967295) (fun r=>r=(.exit 2,ZK up u v es L j d (w*d) (dB false))) ?_ g ⟨hg,hg2⟩
 ·obtain⟨r,hr,rfl⟩:=key;exact hr
 ·clear hg hg2 g;rintro g ⟨h1,h2⟩;have lp:(enc (w*g)).length<=100000000:=Qc1 (bL (Q90 w h2)) lw;obtain⟨n1,hc⟩:=(yN (enc u) (enc (w*g)) ae ae (aV _) (aV _)).any;rw[a_,a_]at hc
  by_cases hlt:d<g
  ·have hu:u<w*g:=by rw[hd,Qu0 hw,Qk2]at hlt;exact hlt
   have hc1:d_ u (w*g)=-1:=by unfold d_;rw[if_pos hu]
   rw[hc1]at hc;have hle:w<=w*g:=Xl0 w ae;obtain⟨n2,hl⟩:=hl.any;obtain⟨n3,hm⟩:=(BQ (enc (w*g)) (enc w) ae (bL hle) (aV _) (aV _) (by rw[a_,a_];exact hle)).any;have hsub:w*g-w=w*(g-1):=by rw[Nat.mul_sub,Xy2]
   rw[a_,a_,hsub]at hm;replace hc:=hc (n1+n2+n3) ae;replace hl:=hl (n1+n2+n3) ae;replace hm:=hm (n1+n2+n3) ae;generalize n1+n2+n3=N at*;refine .inl ⟨g-1,Ex.of (n:=N+60) ?_,ae,ae,ae⟩;have w1:ak .u64 ((g:Int)-1)=((g-1:Nat):Int):=by rw[wrap_u64 ae];omega
   have w2:ak .i64 (32*(j:Int))=((32*j:Nat):Int):=by rw[wrap_i64 ae];omega
   clear hc1 hsub lp lw hd;unfold ZK;simp only[LD]at hc hl hm ⊢;generalize LL (enc u)=us,LL (enc v)=vs,LL (enc w)=ws,LL (enc (w*g))=ps,LL (enc (w*(g-1)))=ps' at*;generalize g-1=g',32*j=j32 at*;simp[A7,oiB,f226,hc,hl,hm,w1,w2]
  ·have hu:¬ u<w*g:=by rw[hd,Qu0 hw,Qk2]at hlt;exact hlt
   have hg:g=d:=ae;have hc1:(d_ u (w*g):Int)=0\/d_ u (w*g)=1:=by unfold d_;rw[if_neg hu];split<;>simp
   replace hc:=hc n1 ae;refine .inr ⟨_,Ex.of (n:=n1+60) ?_,aC,rfl⟩;rw[<-hg];clear lp lw hd hg;unfold ZK;simp only[LD]at hc ⊢;generalize LL (enc u)=us,LL (enc v)=vs,LL (enc (w*g))=ps at*;rcases hc1 with e|e<;>rw[e]at hc<;>simp[A7,oiB,f226,hc]
def Cb (up u v:Nat)(es:List D)(L:Nat)(k:Int)(t:FV):St:=(st0 [.u,.u,.ls (.loc 0) 0 1 0 L,.u,.u,.u,dI up,.d (LD (enc u)),.d (LD (enc v)),dI k,.u,.u,.u,.u,t,.u] [.row 0 1 es])
theorem Mv (up u v k L j:Nat)(es:List D)(hv:4294967296 ^ k<=v)(hv2:v<4294967296 ^ (k+1))(hj:j<=100000000)(hk:k<=100000000)(lu:(enc u).length<=100000000)(hu:u<4294967296 ^ (j+k+2)) :
  Ex E0 A7.r.l.bl.r.l {Cb up u v es L j .u with vars:=[.u,.u,.ls (.loc 0) 0 1 0 L,.u,.u,.u,dI up,.d (LD (enc u)),.d (LD (enc v)),dI j,dI ((j+k+1:Nat):Int),.u,.u,.u,.u,.u]}
   (.norm,{Cb up u v es L j .u with vars:=[.u,.u,.ls (.loc 0) 0 1 0 L,.u,.u,.u,dI up,.d (LD (enc u)),.d (LD (enc v)),dI j,.u,.d (.v (.int .u64 ((min (u / 4294967296 ^ (j+k) / (v / 4294967296 ^ k)) 4294967295:Nat):Int))),.u,.u,.u,.u]}):=by
 have lv:(LL (enc v)).length=k+1:=by simp[LL,Bj hv hv2]
 have lv':=Bj hv hv2;obtain⟨e1,b1,b2⟩:=QD hu;have e3:bH (enc v) k=v / 4294967296 ^ k:=by
  rw[wY,Qx1];rw[Qu0 (Qt2 ae),Qk2,<-Qn2];exact hv2
 have b3:v / 4294967296 ^ k<4294967296:=by rw[<-e3,wY];exact Qu1 _ ae
 have b4:0<v / 4294967296 ^ k:=Xy1 hv (Qt2 ae);have h1:=fun m=>kK m (enc u) ae (j+k+1) ae (aV _)
 have h2:=fun m=>kK m (enc u) ae (j+k) ae (aV _)
 have h3:=fun m=>kK m (enc v) ae k ae (aV _)
 rw[e3]at h3;rw[<-e1];generalize bH (enc u) (j+k+1)=x1 at*;generalize bH (enc u) (j+k)=x0,v / 4294967296 ^ k=vt at*;have w1:=Ul b1;have w2:=BS b1 b2;obtain⟨P,hP⟩:∃ P:Nat,(P:Int)=(x1:Int)*4294967296:=⟨x1*4294967296,ae⟩
 obtain⟨T,hT⟩:∃ T:Nat,T=x1*4294967296+x0:=⟨_,rfl⟩
 rw[<-hP]at w1 w2;rw[show(P:Int)+(x0:Int)=(T:Int) by omega]at w2;rw[<-hT];have w5:Int.tdiv (T:Int) (vt:Int)=((T / vt:Nat):Int):=by rw[Q72 ae,X02]
 have hq:T / vt<18446744073709551616:=Xa2 (Xm0 _ _) ae;generalize T / vt=Q at*;have w6:ak .u64 (Q:Int)=(Q:Int):=wrap_u64 ae;have w7:ak .i64 (((j+k+1:Nat):Int)-1)=((j+k:Nat):Int):=by rw[wrap_i64 ae];omega
 have w8:ak .i64 (((k+1:Nat):Int)-1)=(k:Int):=by rw[wrap_i64 ae];omega
 have hd0:¬ ((vt:Int)=0):=ae;have ZB:¬ vt=0:=ae;clear hP hT e1 e3 hu hv hv2;obtain⟨G,hG⟩:∃ G:Nat,G=min Q 4294967295:=⟨_,rfl⟩
 rw[<-hG];have hmin:((4294967295:Int)<(Q:Int)/\(G:Int)=4294967295)\/(¬ (4294967295:Int)<(Q:Int)/\(Q:Int)=(G:Int)):=ae;clear hG;refine Ex.of (n:=90) ?_;unfold Cb;simp only[LD]at h1 h2 h3 ⊢;generalize LL (enc u)=us,LL (enc v)=vs,j+k+1=n at*;generalize j+k=n1,k+1=m at*;rcases hmin with ⟨a,b⟩|⟨a,b⟩
 ·simp[A7,f226,lv,h1,h2,h3,w1,w2,w5,w6,w7,w8,hd0,ZB,a,b]
 ·rw[b]at a w5 w6;simp[A7,f226,lv,h1,h2,h3,w1,w2,w5,w6,w7,w8,hd0,ZB,a]
theorem Uz (up u v L:Nat)(es:List D):EX E0 60 A7 (Cb up u v es L (-1) .u)=some (.exit 0,Cb up u v es L (-1) (dB false)):=by
 unfold Cb;simp only[LD];generalize LL (enc u)=us,LL (enc v)=vs at*;simp[A7,f226]
theorem QE (up u v L j g:Nat)(es:List D)(hj:j<=100000000)(hg:g<=4294967295)(lv:(enc v).length<=10000000) :
  Ex E0 A7.r.l.bl.r.r.l {Cb up u v es L j .u with vars:=[.u,.u,.ls (.loc 0) 0 1 0 L,.u,.u,.u,dI up,.d (LD (enc u)),.d (LD (enc v)),dI j,.u,.d (.v (.int .u64 g)),.u,.u,.u,.u]}
   (.norm,ZK up u v es L j g (v*4294967296 ^ j*g) .u):=by
 have lg:(enc g).length<=1:=gQ (k:=1) ae;have lvg:(enc (v*g)).length<=100000000:=by
  refine Qc1 (gQ (k:=(enc v).length+1) ?_) ae;have h1:=oM (aV v);rw[a_]at h1;rw[Qn2];exact Xa2 (Q90 v (show g<=4294967296 by omega)) (Q70 h1 ae)
 obtain⟨Kq,_,h1,h2,h3⟩:=((iL [g] aC).j ((Js (enc v) (enc g) ae ae (aV _) (aV _)).j ((Bg (enc (v*g)) (32*j) ae lvg (aV _)).any))).at 0;rw[Jt _ ae]at h1;rw[a_,a_]at h2;rw[a_,X52,show(2:Nat) ^ 32=4294967296 by rfl]at h3;rw[show v*g*4294967296 ^ j=v*4294967296 ^ j*g by rw[Nat.mul_right_comm]]at h3;generalize Kq=N at*;have w1:ak .u32 (g:Int)=(g:Int):=wrap_u32 ae;have w2:ak .i64 (32*(j:Int))=((32*j:Nat):Int):=by rw[wrap_i64 ae];omega
 refine Ex.of (n:=N+60) ?_;unfold Cb ZK;simp only[LD,LL,Qe2,Qc2]at h1 h2 h3 ⊢;generalize List.map (fun(x:Nat)=>D.v (Value.int IntKind.u32 (x:Int))) (enc u)=us at*;generalize List.map (fun(x:Nat)=>D.v (Value.int IntKind.u32 (x:Int))) (enc v)=vs at*;generalize List.map (fun(x:Nat)=>D.v (Value.int IntKind.u32 (x:Int))) (enc g)=gs at*;generalize List.map (fun(x:Nat)=>D.v (Value.int IntKind.u32 (x:Int))) (enc (v*g))=vgs at*;generalize List.map (fun(x:Nat)=>D.v (Value.int IntKind.u32 (x:Int))) (enc (v*4294967296 ^ j*g))=ps at*;generalize 32*j=j32 at*;simp[A7,f226,h1,h2,h3,w1,w2]
theorem Mw (up u v k L j:Nat)(qs:List Nat)(hv:4294967296 ^ k<=v)(hv2:v<4294967296 ^ (k+1))(hj:j<=50000000)(hk:k<=1000000)(lu:(enc u).length<=100000000)(hu:u<v*4294967296 ^ j*4294967296)
  (hL:j+1+qs.length=L) :
  Ex E0 A7 (Cb up u v (LL (kE (j+1) qs)) L j .u) (.norm,Cb up (u % (v*4294967296 ^ j)) v (LL (kE j (u / (v*4294967296 ^ j)::qs))) L ((j:Int)-1) .u):=by
 have hv0:0<v:=Qk1 (Qt2 ae) hv;have hw:0<v*4294967296 ^ j:=Xc0 hv0 (Qt2 ae);have lv:=Bj hv hv2;have hdig:=Ux hv hu;have hd32:u / (v*4294967296 ^ j)<4294967296:=by rw[Qu0 hw,Qk2];exact hu
 have hu2:u<4294967296 ^ (j+k+2):=by
  refine Qk1 hu ?_;rw[show j+k+2=(k+1)+j+1 by omega,Qn2,Qz1];exact Qf0 _ (Qf0 _ ae)
 have lw:(enc (v*4294967296 ^ j*4294967295)).length<=100000000:=by
  refine Qc1 (gQ (k:=(k+1)+j+1) ?_) ae;rw[Qn2,Qz1];exact Xa2 (Q90 _ (show 4294967295<=4294967296 by omega)) (Q70 (Q70 hv2 (Qt2 ae)) ae)
 have adB:=Mv up u v k L j (LL (kE (j+1) qs)) hv hv2 ae ae lu hu2;have agR:=QE up u v L j (min (u / 4294967296 ^ (j+k) / (v / 4294967296 ^ k)) 4294967295) (LL (kE (j+1) qs)) ae (Nat.min_le_right ..) ae;have adC:=Mt up u v L j (u / (v*4294967296 ^ j)) (LL (kE (j+1) qs)) hv0 ae lu ae lw rfl _ hdig (Nat.min_le_right ..);have hmul:v*4294967296 ^ j*(u / (v*4294967296 ^ j))<=u:=Nat.mul_div_le u _;obtain⟨n1,hm⟩:=(BQ (enc u) (enc (v*4294967296 ^ j*(u / (v*4294967296 ^ j)))) ae (bL hmul) (aV _) (aV _) (by rw[a_,a_];exact hmul)).get;have hmod:u-v*4294967296 ^ j*(u / (v*4294967296 ^ j))=u % (v*4294967296 ^ j):=by
  have:=Xs1 u (v*4294967296 ^ j);omega
 rw[a_,a_,hmod]at hm;have hz:=OW qs j;have hset:=Jo qs j (u / (v*4294967296 ^ j));have hlen:=r9 qs (j+1);have hlv:(LL (enc v)).length=k+1:=by simp[LL,lv]
 generalize LL (kE (j+1) qs)=es at*;rw[<-hset];clear hset;generalize u / (v*4294967296 ^ j)=d,min (u / 4294967296 ^ (j+k) / (v / 4294967296 ^ k)) 4294967295=g at*;generalize v*4294967296 ^ j=w at*;have hjL:j<L:=ae;have hz2:=idx hz;have w1:ak .i64 ((j:Int)+((k+1:Nat):Int))=((j+k+1:Nat):Int):=by rw[wrap_i64 ae];omega
 have w2:ak .u32 (d:Int)=(d:Int):=wrap_u32 ae;have w3:ak .i64 ((j:Int)-1)=(j:Int)-1:=wrap_i64 ae;have w4:(0:Int)<=(j:Int):=ae;show Ex E0 (.seq A7.l (.seq (.block 1 (.seq A7.r.l.bl.l (.seq A7.r.l.bl.r.l (.seq A7.r.l.bl.r.r.l (.seq (.block 2 (.loop oiB)) (.seq A7.r.l.bl.r.r.r.r.l A7.r.l.bl.r.r.r.r.r)))))) A7.r.r)) _ _;refine Ex.seq (st1:=Cb up u v es L j (dB true)) (Ex.of (n:=40) ?_) (Ex.seq (st1:=Cb up (u % w) v (es.set j (.v (.int .u32 (d:Int)))) L j .u) (Ex.eZ (Ex.seq (Ex.of (n:=40) ?_) (Ex.seq adB (Ex.seq agR (Ex.seq adC.block
  (Ex.seq (st1:={Cb up (u % w) v es L j .u with vars:=[.u,.u,.ls (.loc 0) 0 1 0 L,.u,.u,.u,dI up,.d (LD (enc (u % w))),.d (LD (enc v)),dI j,.u,.d (.v (.int .u64 d)),.u,.u,.u,.u]}) (Ex.of (n:=n1+40) ?_) (Ex.of (n:=40) ?_))))))) (Ex.of (n:=40) ?_))
 ·unfold Cb;simp only[LD];generalize LL (enc u)=us at*;generalize LL (enc v)=vs at*;simp[A7,f226,w4]
 ·unfold Cb;simp only[LD];generalize LL (enc u)=us at*;generalize LL (enc v)=vs at*;generalize j+k+1=n at*;generalize k+1=m at*;simp[A7,f226,hlv,w1]
 ·unfold Cb ZK;simp only[LD]at hm ⊢;generalize LL (enc u)=us at*;generalize LL (enc v)=vs at*;generalize LL (enc (u % w))=ms at*;generalize LL (enc (w*d))=ps at*;simp[A7,f226,hm]
 ·unfold Cb;simp only[LD];generalize LL (enc (u % w))=us at*;generalize LL (enc v)=vs at*;simp[A7,f226,hz,hz2,w2,w4,hjL,hlen]
 ·unfold Cb;simp only[LD];generalize LL (enc (u % w))=us at*;generalize LL (enc v)=vs at*;simp[A7,f226,w3]
theorem QF (up u0 v k L:Nat)(hv:4294967296 ^ k<=v)(hv2:v<4294967296 ^ (k+1))(hL:L<=50000000)(hk:k<=1000000)(lu:(enc u0).length<=100000000)(hu:u0<v*4294967296 ^ L) :
  ∃ r,Ex E0 (.loop A7) (Cb up u0 v (LL (kE L [])) L ((L:Int)-1) .u) r /\
   ∃ qs,bY qs/\qs.length=L/\val qs=u0 / v/\r=(.exit 0,Cb up (u0 % v) v (LL qs) L (-1) (dB false)):=by
 have hv0:0<v:=Qk1 (Qt2 ae) hv;refine Ex.inv (S:=fun t:Nat × Nat × List Nat=>Cb up t.2.1 v (LL (kE t.1 t.2.2)) L ((t.1:Int)-1) .u) (fun t=>t.1)
  (fun t=>t.1+t.2.2.length=L/\bY t.2.2/\t.2.1<v*4294967296 ^ t.1/\u0=val t.2.2*4294967296 ^ t.1*v+t.2.1) _ ?_ (L,u0,[]) ?_
 ·rintro⟨j,u,qs⟩ ⟨h1,h2,h3,h4⟩;simp only at h1 h2 h3 h4;cases j with
  | zero =>
   simp only[Nat.pow_zero,Xy2]at h3 h4;have hd:u0 / v=val qs:=by rw[h4,Qk2,Xl2 hv0,Xa1 h3];rfl
   have hm:u0 % v=u:=by rw[h4,Qk2,X2,Qx1 h3]
   refine .inr ⟨_,?_,?_,qs,h2,ae,hd.symm,rfl⟩
   ·rw[hm];have:=Uz up u v L (LL qs);simpa[kE] using Ex.of this
   ·simp
  | succ j =>
   have hu0:u<=u0:=ae;have hw:0<v*4294967296 ^ j:=Xc0 hv0 (Qt2 ae);have h3':u<v*4294967296 ^ j*4294967296:=by rw[Q21,<-Qn2];exact h3
   have hr:=Mw up u v k L j qs hv hv2 ae hk (Qc1 (bL hu0) lu) h3' ae;refine .inl ⟨(j,u % (v*4294967296 ^ j),u / (v*4294967296 ^ j)::qs),?_,aC,?_,?_,?_,?_⟩
   ·simp only;rw[show(((j+1:Nat):Int)-1)=(j:Int) by omega];exact hr
   ·simp only[Qf2];omega
   ·intro y hy;rcases Qi1.1 hy with rfl|hy
    ·rw[Qu0 hw,Qk2];exact h3'
    ·exact h2 y hy
   ·exact Qu1 _ hw
   ·simp only[val];have e:u0=val qs*4294967296*(v*4294967296 ^ j)+u:=by
     rw[h4,Qn2]
     congr 1
     generalize 4294967296 ^ j=P;grind
    rw[Q21,Qk2 _ v];exact Uy e
 ·refine⟨aC,?_,by simpa using hu,by simp[val]⟩;intro x hx;cases hx
theorem Mx {y:Nat}(hy:0<y):4294967296 ^ ((enc y).length-1)<=y:=by
 rcases Qg0 y (4294967296 ^ ((enc y).length-1)) with h|h
 ·have h1:=gQ h;have h2:enc y≠[]:=by intro e;rw[eH]at e;omega
  have h3:0<(enc y).length:=Xh2.2 h2;omega
 ·exact h
theorem yQ (y:Nat):y<4294967296 ^ (enc y).length:=by
 have:=oM (aV y)
 rwa [a_]at this
theorem G9 (x y:Nat)(hy:0<y)(lx:(enc x).length<=1000000)(ly:(enc y).length<=1000000) :
  Ca E0 acr [.d (LD (enc x)),.d (LD (enc y))] (.d (.t [LD (enc (x / y)),LD (enc (x % y))]),none):=by
 by_cases hsm:y<4294967296
 ·have:=Us (enc x) y ae (aV x) hsm hy
  rwa [a_]at this
 ·have alJ:0<(enc y).length:=Xh2.2 (by intro e;rw[eH]at e;omega);obtain⟨k,hk⟩:∃ k,(enc y).length=k+1:=⟨(enc y).length-1,ae⟩
  have h1:4294967296 ^ k<=y:=by have:=Mx hy;rw[hk]at this;simpa using this
  have h2:y<4294967296 ^ (k+1):=by have:=yQ y;rwa [hk]at this
  have hk1:1<=k:=by
   rcases Qr2 k with rfl|h
   ·simp at h2;omega
   ·exact h
  obtain⟨lo,htop,hlo⟩:=ZJ k h1 h2;obtain⟨g1,g2⟩:=Uw h1 h2;have ht1:y / 4294967296 ^ k<4294967296:=by rw[Qu0 (Qt2 ae),Qk2,<-Qn2];exact h2
  have hbl:=Bi ht1;have G_:=fun m=>Mr m lo (y / 4294967296 ^ k) ht1 ae
  rw[<-htop,hlo]at G_;generalize hbe:gT (y / 4294967296 ^ k)=bl at*;generalize hup:32-bl=up at*;have agS:up<=32:=ae;obtain⟨n1,hlx⟩:=(Bg (enc x) up ae ae (aV x)).any;obtain⟨n2,hly⟩:=(Bg (enc y) up ae ae (aV y)).any;rw[a_]at hlx hly;have hp:0<2 ^ up:=Qt2 ae;have lu:(enc (x*2 ^ up)).length<=(enc x).length+1:=by
   refine gQ ?_;rw[Qn2];have e1:=yQ x;have e2:2 ^ up<=4294967296:=by
    have:=Qv0 (n:=2) ae agS;simpa using this
   exact Qk1 (Q70 e1 hp) (Q90 _ e2)
  have hq:(x*2 ^ up) / (y*2 ^ up)=x / y:=Nat.mul_div_mul_right x y hp;have hr:(x*2 ^ up) % (y*2 ^ up)=x % y*2 ^ up:=Nat.mul_mod_mul_right (2 ^ up) x y;have hr2:x % y*2 ^ up / 2 ^ up=x % y:=Nat.mul_div_cancel _ hp;have hlv:(enc (y*2 ^ up)).length=k+1:=Bj g2 g1;have lr:(enc (x % y*2 ^ up)).length<=100000000:=Qc1 (bL (Qf0 _ (Nat.mod_le x y))) ae;obtain⟨n3,Ha⟩:=(Uu (enc (x % y*2 ^ up)) up ae lr (aV _)).any;rw[a_,hr2]at Ha;have hu0:x*2 ^ up<y*2 ^ up*4294967296 ^ ((enc (x*2 ^ up)).length-k):=by
   refine Qk1 (yQ (x*2 ^ up)) ?_;refine Qc1 ?_ (Qf0 _ g2);rw[<-Qz1];exact Qv0 ae ae
  obtain⟨r,hloop,qs,hqs,hql,hqv,rfl⟩:=QF up (x*2 ^ up) (y*2 ^ up) k ((enc (x*2 ^ up)).length-k) g2 g1 ae ae ae hu0;rw[hq]at hqv;rw[hr]at hloop;obtain⟨n4,hc⟩:=(iL qs ae).any;rw[dm hqs,hqv]at hc;replace hlx:=hlx (n1+n2+n3+n4) ae;replace hly:=hly (n1+n2+n3+n4) ae;replace Ha:=Ha (n1+n2+n3+n4) ae;replace hc:=hc (n1+n2+n3+n4) ae;generalize n1+n2+n3+n4=N at*;have hlY:(LL (enc y)).length=k+1:=by simp[LL,hk]
  have hlV:(LL (enc (y*2 ^ up))).length=k+1:=by simp[LL,hlv]
  have hlU:(LL (enc (x*2 ^ up))).length=(enc (x*2 ^ up)).length:=by simp[LL]
  have hlQ:(LL qs).length=(enc (x*2 ^ up)).length-k:=by simp[LL,hql]
  have hz:LL (kE ((enc (x*2 ^ up)).length-k) [])=List.replicate ((enc (x*2 ^ up)).length-k) (.v (.int .u32 0)):=by simp[LL,kE]
  have hLb:(enc (x*2 ^ up)).length-k<=2000000:=ae;have hmax:∃ z:Int,z=((enc (x*2 ^ up)).length:Int)-((k+1:Nat):Int)+1/\((z > 0/\z=(((enc (x*2 ^ up)).length-k:Nat):Int))\/(¬ z > 0/\(enc (x*2 ^ up)).length-k=0)):=⟨_,rfl,ae⟩
  obtain⟨z,hze,hzc⟩:=hmax;have lU:(enc (x*2 ^ up)).length<=1000001:=ae;have w1:ak .i64 (32*((k+1:Nat):Int))=((32*(k+1):Nat):Int):=by rw[wrap_i64 ae];omega
  have w2:ak .i64 (((32*(k+1):Nat):Int)-((32*k+bl:Nat):Int))=(up:Int):=by rw[wrap_i64 ae];omega
  have w3:ak .i64 (((enc (x*2 ^ up)).length:Int)-((k+1:Nat):Int))=((enc (x*2 ^ up)).length:Int)-((k+1:Nat):Int):=wrap_i64 ae;have w4:ak .i64 (((enc (x*2 ^ up)).length:Int)-((k+1:Nat):Int)+1)=z:=by rw[wrap_i64 ae,hze]
  have w5:ak .i64 ((((enc (x*2 ^ up)).length-k:Nat):Int)-1)=(((enc (x*2 ^ up)).length-k:Nat):Int)-1:=wrap_i64 ae;have hne:(((k+1:Nat):Int)==1)=false:=by simp;omega
  clear hu0 g1 g2 hq hr hr2 lr hbe htop hlo hql hqs hqv h1 h2 ht1 hbl;generalize hX:enc (x*2 ^ up)=eX at*;generalize hY:enc (y*2 ^ up)=eY at*;refine Ca.body (o:=.ret) (st1:=(st0 (.u::.u::.d (LD (enc (x / y)))::.d (LD (enc (x % y)))::EY) [.h_ 0 1 (LL qs)])) rfl (k226:E0.fn _=_) rfl ?_ (by intro id h;cases h) ?_
  ·show Ex E0 (.seq zY.body.l (.seq zY.body.r.l (.seq zY.body.r.r.l (.seq zY.body.r.r.r.l (.seq zY.body.r.r.r.r.l (.seq (.seq zY.body.r.r.r.r.r.l.l (.block 0 (.loop A7))) zY.body.r.r.r.r.r.r)))))) _ _;refine Ex.seq (st1:=(st0 (.d (LD (enc x))::.d (LD (enc y))::Ma) [])) (Ex.of (n:=40) ?_)
    (Ex.seq (st1:=(st0 [.d (LD (enc x)),.d (LD (enc y)),.u,.u,.u,.u,.u,.u,.u,.u,.u,.u,.u,dB false,.u,.u] [])) (Ex.of (n:=40) ?_)
    (Ex.seq (st1:=(st0 (.d (LD (enc x))::.d (LD (enc y))::.u::.u::.u::.u::dI up::OU) [])) (Ex.of (n:=200) ?_)
    (Ex.seq (st1:=(st0 (.u::.u::.u::.u::.u::.u::dI up::.d (LD eX)::.d (LD eY)::rX) [])) (Ex.of (n:=N+40) ?_)
    (Ex.seq (st1:=(st0 (.u::.u::.ls (.loc 0) 0 1 0 (eX.length-k)::.u::.u::.u::dI up::.d (LD eX)::.d (LD eY)::rX) [.row 0 1 (LL (kE (eX.length-k) []))])) (Ex.of (n:=40) ?_)
    (Ex.seq (Ex.seq (Ex.of (n:=40) ?_) hloop.block) (Ex.of (n:=N+40) ?_))))))
   ·simp[f226]
   ·simp only[LD];generalize LL (enc x)=xs,LL (enc y)=ys,k+1=m at*;simp[f226,hlY,hne]
   ·simp only[LD]at G_ ⊢;generalize LL (enc x)=xs,LL (enc y)=ys,k+1=m at*;generalize 32*m=m32,32*k+bl=kb at*;simp[f226,hlY,G_,w1,w2]
   ·simp only[LD]at hlx hly ⊢;generalize LL (enc x)=xs,LL (enc y)=ys,LL eX=Xs,LL eY=Ys at*;simp[f226,hlx,hly]
   ·have hm1:((eX.length-k:Nat):Int)*4<=1099511627776:=ae;have hm2:((eX.length-k:Nat):Int)<=1099511627776:=ae;rw[hz];generalize eX.length-k=L at*;generalize eX.length=lX at*;simp only[LD];generalize LL eX=Xs,LL eY=Ys,k+1=m at*;rcases hzc with ⟨a,b⟩|⟨a,b⟩
    ·rw[b]at w4 a;replace a:0<L:=ae;simp[f226,hlU,hlV,w3,w4,a,hm1,hm2,most]
    ·subst b;simp[f226,hlU,hlV,w3,w4,a,most]
   ·unfold Cb;simp only[hX,hY,LD];have hlR:(LL (kE (eX.length-k) [])).length=eX.length-k:=by rw[r9];simp
    generalize LL (kE (eX.length-k) [])=es at*;generalize eX.length-k=L,LL eX=Xs,LL eY=Ys at*;simp[f226,w5]
   ·unfold Cb;simp only[LD]at hc Ha ⊢;clear hloop;generalize LL (enc (x % y*2 ^ up))=rs,LL (enc (y*2 ^ up))=Ys,LL (enc (x / y))=as1 at*;generalize LL (enc (x % y))=as2,eX.length-k=L at*;have htk:(LL qs).take L=LL qs:=Qe1 ae;generalize LL qs=Qs at*;simp[ah.view,f226,hlQ,htk,hc,Ha]
  ·simp[f226,LD,rH]
theorem MB (a b:Nat)(la:(enc a).length<=1000000)(lb:(enc b).length<=1000000)(hb0:0<b):Ex E0 gcB (ET a b .u) (.norm,ET b (a % b) .u):=by
 obtain⟨n0,ho⟩:=(G9 a b hb0 la lb).get;refine Ex.of (n:=n0+60) ?_;unfold ET;have hlb:∃ m,(LL (enc b)).length=m+1:=by
  have:0<(enc b).length:=Xh2.2 (by intro e;rw[eH]at e;omega);exact⟨(enc b).length-1,by simp[LL];omega⟩
 obtain⟨m,hlb⟩:=hlb;have hm:0<(m:Int)+1:=ae;simp only[LD]at ho ⊢;generalize LL (enc a)=as',LL (enc b)=bs,LL (enc (a / b))=qs,LL (enc (a % b))=rs at*;simp[gcB,f183,hlb,ho,hm]
theorem QG (a b:Nat)(la:(enc a).length<=1000000)(lb:(enc b).length<=1000000):Ex E0 (.loop gcB) (ET a b .u) (.exit 0,ET (Nat.gcd a b) 0 (dB false)):=by
 induction b using Nat.strongRecOn generalizing a with
 | ind b ih =>
  rcases Qr2 b with rfl|h0
  ·rw[Nat.gcd_zero_right];exact Ex.out (ZC a) aC
  ·have hm:=Qu1 a h0;have:=ih (a % b) hm b lb (Qc1 (bL ae) lb);have hg:Nat.gcd a b=Nat.gcd b (a % b):=by rw[Xt2 a b,Nat.gcd_rec b a,Xt2]
   rw[hg];exact Ex.next (MB a b la lb h0) this
theorem UA (a b:Nat)(la:(enc a).length<=1000000)(lb:(enc b).length<=1000000):Ca E0 ajB [.d (LD (enc a)),.d (LD (enc b))] (.d (LD (enc (Nat.gcd a b))),none):=by
 have hl:=QG a b la lb;generalize Nat.gcd a b=g at*;refine Ca.body (o:=.ret) (st1:=(st0 [.u,.u,.d (LD (enc g)),.u,.u] [])) rfl (aO 183 f183:E0.fn _=_) rfl ?_ (by intro id h;cases h) ?_
 ·show Ex E0 (.seq adt.body.l (.seq (.block 0 (.loop gcB)) adt.body.r.r)) _ _;refine Ex.seq (st1:=ET a b .u) (Ex.of (n:=40) ?_) (Ex.seq hl.block (Ex.of (n:=40) ?_))
  ·unfold ET;simp[f183]
  ·unfold ET;simp[f183]
 ·simp[f183,LD]
abbrev ajE:Nat:=182
abbrev amw:bO:=f182
abbrev adD:Nat:=109
abbrev ajF:bO:=f109
theorem Hd (n:Nat):CL E0 (n+20) ajE [] []=some (.d (.s 1 [.v (.int .u32 1)]),none):=by
 rw[aA rfl (aO 182 f182:E0.fn _=_) rfl];simp[f182]
theorem Cc:LD (enc 1)=.s 1 [.v (.int .u32 1)]:=by rw[jI ae ae];rfl
def vR (l:List Nat):Bool:=decide (trim l=l)
theorem OX (n:Nat):vR (enc n)=true:=by simp[vR,JB]
theorem oq {l:List Nat}(hl:bY l):vR l=true↔l=enc (val l):=by
 unfold vR;rw[decide_eq_true_iff,dm hl];exact⟨fun h=>h.symm,fun h=>h.symm⟩
theorem zZ (m:Nat)(l:List Nat)(hl:l.length<=1000000000):CL E0 (m+30) Zu [.d (LD l)] []=some (dB (vR l),none):=by
 rw[aA rfl (aO 180 f180:E0.fn _=_) rfl];rcases Q92 l with h|⟨b,x,h⟩
 ·rw[h];have:vR []=true:=by simp[vR,trim]
  rw[this];simp[f180,LD,LL]
 ·rw[Q50]at h;rw[h]at hl ⊢;have hlen:(LL (b++[x])).length=b.length+1:=by simp[LL]
  have hget:(LL (b++[x]))[b.length]?=some (.v (.int .u32 (x:Int))):=by simp[LL]
  have hb:(((b.length:Int)+1)==0)=false:=by simp;omega
  have hw:ak .i64 (b.length:Int)=(b.length:Int):=wrap_i64 (by simp at hl;omega);have hok:vR (b++[x])=((x:Int) != 0):=by
   unfold vR
   by_cases hx:x=0
   ·subst hx;rw[uu];have h2:=su b;have h3:¬ trim b=b++[0]:=by
     intro e;rw[e]at h2;simp only[Qb0,Qf2,Qs0]at h2;omega
    simp[h3]
   ·rw[uq b x hx];simp[hx]
  rw[hok];simp only[LD];generalize LL (b++[x])=es at*;have BO:=idx hget;simp[f180,hlen,hget,BO,hb,hw]
def raw (s:Bool)(a b:List Nat):D:=.a [vB s,LD a,LD b]
def ek (s:Bool)(a b:List Nat):Bool :=
 vR a&&vR b&&(if a=[] then !s&&decide (b=[]) else decide (b=[])||(decide (val b≠1)&&decide (Nat.gcd (val a) (val b)=1)))
theorem ZL {a:Nat}:(d_ a 1 != 0)=decide (a≠1):=by
 unfold d_
 by_cases h:a<1
 ·rw[if_pos h];simp;omega
 ·rw[if_neg h]
  by_cases h2:a=1
  ·simp[h2]
  ·simp[h2]
theorem ZM {a:Nat}:(d_ a 1==0)=decide (a=1):=by
 unfold d_
 by_cases h:a<1
 ·rw[if_pos h];simp;omega
 ·rw[if_neg h]
  by_cases h2:a=1
  ·simp[h2]
  ·simp[h2]
theorem yR (s:Bool)(a b:List Nat)(la:a.length<=1000000)(lb:b.length<=1000000)(ha:bY a)(hb:bY b):Ca E0 adD [.d (raw s a b)] (dB (ek s a b),none):=by
 have p1:=fun m=>zZ m a ae
 have p2:=fun m=>zZ m b ae
 have o1:=Hd;unfold ek
 by_cases hoa:vR a=true
 ·by_cases Jd:vR b=true
  ·rw[hoa]at p1 ⊢;rw[Jd]at p2 ⊢
   by_cases hna:a=[]
   ·subst hna;simp only[raw,LD,LL,Qc2]at p1 p2 ⊢
    by_cases hnb:b=[]
    ·subst hnb;refine Ca.bQ (n:=60) ?_;rw[aA rfl (k109:E0.fn _=_) rfl];simp only[Qc2]at p2 ⊢;cases s<;>simp[f109,p1]
    ·have hlen:((List.map (fun(x:Nat)=>D.v (Value.int IntKind.u32 (x:Int))) b).length==0)=false:=by simp[hnb]
     refine Ca.bQ (n:=60) ?_;rw[aA rfl (k109:E0.fn _=_) rfl];have FE:¬ (List.map (fun(x:Nat)=>D.v (Value.int IntKind.u32 (x:Int))) b)=[]:=by simp[hnb]
     generalize List.map (fun(x:Nat)=>D.v (Value.int IntKind.u32 (x:Int))) b=bs at*;cases s<;>simp[f109,p1,p2,hnb,hlen,FE]
   ·have hla:¬ (LL a)=[]:=by simp[LL,hna]
    by_cases hnb:b=[]
    ·subst hnb;refine Ca.bQ (n:=60) ?_;rw[aA rfl (k109:E0.fn _=_) rfl];simp only[raw,LD]at p1 p2 ⊢;generalize LL a=as' at*;simp only[LL,Qc2]at p2 ⊢;simp[f109,p1,p2,hna,hla]
    ·have hlb:¬ (LL b)=[]:=by simp[LL,hnb]
     have ea:=(oq ha).1 hoa;have eb:=(oq hb).1 Jd;have l1:=gQ (n:=1) (k:=1) ae;have hg:(enc (Nat.gcd (val a) (val b))).length<=1000000:=by
      refine Qc1 (bL (m:=Nat.gcd (val a) (val b)) (n:=val b) (X00 ?_ (Xw2 _ _))) (by rw[<-eb];omega);rcases Qr2 (val b) with h|h
      ·rw[h]at eb;rw[dH]at eb;exact absurd eb hnb
      ·exact h
     obtain⟨Kq,_,c1,c2,c3⟩:=((yN b (enc 1) ae ae hb (aV _)).j ((yN (enc (Nat.gcd (val a) (val b))) (enc 1) ae ae (aV _) (aV _)).j ((UA (val a) (val b) (by rw[<-ea];omega) (by rw[<-eb];omega)).any))).at 0;generalize Kq=N at*;simp only[a_]at c1 c2;rw[<-ea,<-eb]at c3;rw[Cc]at c1 c2;have e1:=ZL (a:=val b);have e2:=ZM (a:=Nat.gcd (val a) (val b));refine Ca.bQ (n:=N+60) ?_;rw[aA rfl (k109:E0.fn _=_) rfl];rw[if_neg hna];simp only[hnb,decide_false,Xc1,Qs1];rw[<-e1,<-e2];clear e1 e2 ea eb;generalize d_ (val b) 1=k1,d_ (Nat.gcd (val a) (val b)) 1=k2 at*;simp only[raw,LD]at p1 p2 c1 c2 c3 ⊢;generalize LL a=as',LL b=bs,LL (enc (Nat.gcd (val a) (val b)))=gs at*;cases hk1:(k1 != 0)
     ·simp[f109,p1,p2,hla,hlb,o1,c1,c2,c3,hk1]
     ·simp[f109,p1,p2,hla,hlb,o1,c1,c2,c3,hk1]
  ·simp only[X1]at Jd;rw[hoa]at p1 ⊢;rw[Jd]at p2 ⊢;refine Ca.bQ (n:=60) ?_;rw[aA rfl (k109:E0.fn _=_) rfl];simp only[raw,LD]at p1 p2 ⊢;generalize LL a=as',LL b=bs at*;simp[f109,p1,p2]
 ·simp only[X1]at hoa;rw[hoa]at p1 ⊢;refine Ca.bQ (n:=60) ?_;rw[aA rfl (k109:E0.fn _=_) rfl];simp only[raw,LD]at p1 p2 ⊢;generalize LL a=as',LL b=bs at*;simp[f109,p1,p2]
abbrev nOf:Nat:=185
abbrev fOf:bO:=f185
abbrev adE:Nat:=230
abbrev ajG:bO:=f230
abbrev ajH:Nat:=187
abbrev amy:bO:=f187
def sz (n:Nat):Nat:=(enc n).length
theorem vg {n k:Nat}(h:n<4294967296 ^ k):sz n<=k:=gQ h
theorem JC (n:Nat):n<4294967296 ^ sz n:=yQ n
theorem qo {m n:Nat}(h:m<=n):sz m<=sz n:=bL h
theorem fe (a b:Nat):sz (a*b)<=sz a+sz b:=by
 refine vg ?_;rw[Qz1];have h1:=JC a;have h2:=JC b;exact Xa2 (Q90 a (Nat.le_of_lt h2)) (Q70 h1 (Qt2 ae))
theorem MC (a b:Nat):sz (a+b)<=max (sz a) (sz b)+1:=by
 refine vg ?_;rw[Qn2];have h1:=Qk1 (JC a) (Qv0 (n:=4294967296) ae (Q01 (sz a) (sz b)));have h2:=Qk1 (JC b) (Qv0 (n:=4294967296) ae (Qy2 (sz a) (sz b)));omega
theorem Ce:sz 1=1:=by unfold sz;rw[jI ae ae];rfl
def fq (s:Bool)(n d:Nat):D:=.a [vB s,LD (enc n),LD (enc d)]
def qs (x:Rat):Bool:=decide (x.num<0)
def qn (x:Rat):List Nat:=enc x.num.natAbs
def qd (x:Rat):List Nat:=if x.den=1 then [] else enc x.den
def qD (x:Rat):D:=raw (qs x) (qn x) (qd x)
def fqR (x:Rat):D:=fq (qs x) x.num.natAbs x.den
def qz (x:Rat):Nat:=max (sz x.num.natAbs) (sz x.den)
theorem He (x:Rat):bY (qn x):=aV _
theorem Hf (x:Rat):bY (qd x):=by
 unfold qd;split
 ·intro y hy;cases hy
 ·exact aV _
theorem UB (x:Rat):(qn x).length<=qz x:=Q01 _ _
theorem UC (x:Rat):(qd x).length<=qz x:=by
 unfold qd;split
 ·simp
 ·exact Qy2 _ _
theorem uw (x:Rat):ek (qs x) (qn x) (qd x)=true:=by
 have hd:=x.den_nz;have hr:Nat.gcd x.num.natAbs x.den=1:=x.reduced;have ok2:vR (qd x)=true:=by
  unfold qd;split
  ·simp[vR,trim]
  ·exact OX _
 unfold ek;rw[show vR (qn x)=true from OX _,ok2];simp only[Qs1]
 by_cases h0:qn x=[]
 ·rw[if_pos h0];have hz:x.num.natAbs=0:=eH.1 h0;have hz2:x.num=0:=Xu0.1 hz;rw[hz,Nat.gcd_zero_left]at hr;simp[qs,qd,hz2,hr]
 ·rw[if_neg h0];unfold qd;split
  ·simp
  ·rename_i h1;have e1:val (qn x)=x.num.natAbs:=a_ _;simp[a_,e1,hr,h1]
theorem vS (x:Rat)(hx:qz x<=1000000):Ca E0 nOf [.d (qD x)] (.d (fqR x),none):=by
 obtain⟨N,hv⟩:=(yR (qs x) (qn x) (qd x) (Qc1 (UB x) hx) (Qc1 (UC x) hx) (He x) (Hf x)).get;rw[uw]at hv;have o1:=Hd;have hn:enc x.num.natAbs=qn x:=rfl;refine Ca.bQ (n:=N+60) ?_;rw[aA rfl (aO 185 f185:E0.fn _=_) rfl];simp only[qD,fqR,fq,raw,hn];simp only[raw]at hv;generalize qs x=s at*
 by_cases hd:x.den=1
 ·have e:qd x=[]:=if_pos hd;rw[e]at hv ⊢;rw[hd,Cc];simp only[LD]at hv ⊢;generalize LL (qn x)=ns at*;simp only[LL,Qc2]at hv ⊢;simp[f185,hv,o1]
 ·have e:qd x=enc x.den:=if_neg hd;have FE:¬ LL (enc x.den)=[]:=by
   have:=x.den_nz;simp[LL,eH,this]
  rw[e]at hv ⊢;simp only[LD]at hv ⊢;generalize LL (qn x)=ns,LL (enc x.den)=ds at*;simp[f185,hv,FE]
theorem Cf (m:Nat)(l:List Nat)(h0:l≠[])(hl:l.length<=100000000):CL E0 (m+30) adE [.d (LD l)] []=some (.d (LD l),none):=by
 rw[aA rfl (aO 230 f230:E0.fn _=_) rfl];obtain⟨x,r,rfl⟩:∃ x r,l=x::r:=by cases l with|nil=>exact absurd rfl h0|cons x r=>exact⟨x,r,rfl⟩
 simp only[LD,LL,Qe2];have hlen:(List.map (fun(x:Nat)=>D.v (Value.int IntKind.u32 (x:Int))) r).length<=100000000:=by simp at hl ⊢;omega
 have hone:∀ y ∈ List.map (fun(x:Nat)=>D.v (Value.int IntKind.u32 (x:Int))) r,D.one y=true:=by
  intro y hy;obtain⟨z,_,rfl⟩:=Qg1.1 hy;rfl
 generalize List.map (fun(x:Nat)=>D.v (Value.int IntKind.u32 (x:Int))) r=es at*;have hm:(es.length+1)*4<=1099511627776:=ae;have hm2:(es.length+1)<=1099511627776:=ae;simp[f230,ah.view,most,hm,hm2]
def uX (s:Bool)(n:Nat):Int:=if s then -(n:Int) else n
def wZ (s:Bool)(n d:Nat):Rat:=mkRat (uX s n) d
theorem vT (s:Bool)(n:Nat):(uX s n).natAbs=n:=by cases s<;>simp[uX]
theorem uz {s:Bool}{n d:Nat}(hd:0<d):(wZ s n d).den=d / Nat.gcd n d:=by
 unfold wZ;rw[Rat.den_mkRat,if_neg ae,vT,Xt2]
theorem OY {s:Bool}{n d:Nat}(hd:0<d):(wZ s n d).num=uX s (n / Nat.gcd n d):=by
 unfold wZ;rw[Rat.num_mkRat,if_neg ae,vT,Xt2];have hg:Nat.gcd n d ∣ n:=Nat.gcd_dvd_left n d;cases s
 ·simp[uX]
 ·simp only[uX,if_true];rw[Int.neg_ediv_of_dvd (by exact_mod_cast hg)];simp
theorem uA {s:Bool}{n d:Nat}(hd:0<d):(wZ s n d).num.natAbs=n / Nat.gcd n d:=by rw[OY hd,vT]
theorem Cg {s:Bool}{n d:Nat}(hd:0<d):qs (wZ s n d)=if n=0 then false else s:=by
 have hg:0<Nat.gcd n d:=Xu1 n hd;unfold qs;rw[OY hd]
 by_cases h:n=0
 ·subst h;cases s<;>simp[uX]
 ·rw[if_neg h];have:=Xy1 (X00 ae (Nat.gcd_dvd_left n d)) hg;cases s
  ·simp[uX];omega
  ·simp only[uX,if_true];simp;omega
theorem Ch {s:Bool}{n d:Nat}(hd:0<d):qz (wZ s n d)<=max (sz n) (sz d):=by
 unfold qz;rw[uA hd,uz hd];have h1:=qo (Xm0 n (Nat.gcd n d));have h2:=qo (Xm0 d (Nat.gcd n d));omega
theorem Bl {s:Bool}{n d:Nat}(ln:sz n<=1000000)(ld:sz d<=1000000)(hd0:0<d):Ca E0 ajH [.d (fq s n d)] (.d (qD (wZ s n d)),none):=by
 have o1:=Hd;unfold qD qn qd;rw[Cg hd0,uA hd0,uz hd0];unfold sz at ln ld;rcases Qr2 n with rfl|hn0
 ·have e2:d / Nat.gcd 0 d=1:=by rw[Nat.gcd_zero_left];exact Nat.div_self hd0
  rw[e2];refine Ca.bQ (n:=60) ?_;rw[aA rfl (k187:E0.fn _=_) rfl];simp only[fq,raw,Nat.zero_div,dH,if_true,LD,LL,Qc2];generalize List.map (fun(x:Nat)=>D.v (Value.int IntKind.u32 (x:Int))) (enc d)=ds at*;simp[f187]
 ·rw[if_neg ae];have hg:0<Nat.gcd n d:=Xu1 n hd0;have lg:(enc (Nat.gcd n d)).length<=1000000:=Qc1 (bL (X00 hd0 (Xw2 n d))) ld;obtain⟨n1,c1⟩:=(UA n d ln ld).any;have l1:=gQ (n:=1) (k:=1) ae;obtain⟨n2,c2⟩:=(yN (enc (Nat.gcd n d)) (enc 1) ae ae (aV _) (aV _)).any;obtain⟨n3,c3⟩:=(G9 n (Nat.gcd n d) hg ln lg).any;obtain⟨n4,c4⟩:=(G9 d (Nat.gcd n d) hg ld lg).any;have ldl:(enc (d / Nat.gcd n d)).length<=1000000:=Qc1 (bL (Xm0 _ _)) ld;obtain⟨n5,c5⟩:=(yN (enc (d / Nat.gcd n d)) (enc 1) ae ae (aV _) (aV _)).any;replace c1:=c1 (n1+n2+n3+n4+n5) ae;replace c2:=c2 (n1+n2+n3+n4+n5) ae;replace c3:=c3 (n1+n2+n3+n4+n5) ae;replace c4:=c4 (n1+n2+n3+n4+n5) ae;replace c5:=c5 (n1+n2+n3+n4+n5) ae;generalize n1+n2+n3+n4+n5=N at*;simp only[a_]at c2 c5;rw[Cc]at c2 c5;have k1:=fun m=>Cf m (enc n) (by rw[Ne,eH];omega) ae
  have k2:=fun m=>Cf m (enc d) (by rw[Ne,eH];omega) ae
  have hln:¬ LL (enc n)=[]:=by
   have:¬ n=0:=ae;simp[LL,eH,this]
  refine Ca.bQ (n:=N+80) ?_;rw[aA rfl (k187:E0.fn _=_) rfl]
  by_cases h1:Nat.gcd n d=1
  ·have e1:d_ 1 1=0:=by simp[d_]
   rw[h1]at c1 c2 c5 ⊢;rw[Xj2]at c5;rw[Xj2,Xj2];rw[Cc]at c1 c2;rw[e1]at c2
   by_cases hd1:d=1
   ·have e2:d_ d 1=0:=by rw[hd1];simp[d_]
    rw[e2]at c5;rw[if_pos hd1];simp only[fq,raw,LD]at c1 c2 c5 k1 k2 ⊢;generalize LL (enc n)=ns,LL (enc d)=ds at*;simp only[LL,Qc2];simp[f187,o1,c1,c2,c5,k1,k2,hln]
   ·have e2:d_ d 1=1:=by unfold d_;rw[if_neg ae,if_neg ae]
    rw[e2]at c5;rw[if_neg hd1];simp only[fq,raw,LD]at c1 c2 c5 k1 k2 ⊢;generalize LL (enc n)=ns,LL (enc d)=ds at*;simp[f187,o1,c1,c2,c5,k1,k2,hln]
  ·have e1:d_ (Nat.gcd n d) 1=1:=by unfold d_;rw[if_neg ae,if_neg h1]
   rw[e1]at c2;have hdv:Nat.gcd n d ∣ d:=Xw2 n d;generalize Nat.gcd n d=g at*
   by_cases hd1:d / g=1
   ·have e2:d_ (d / g) 1=0:=by rw[hd1];simp[d_]
    rw[e2]at c5;rw[if_pos hd1];generalize d / g=dd,n / g=nn,n % g=m1,d % g=m2 at*;simp only[fq,raw,LD]at c1 c2 c3 c4 c5 k1 k2 ⊢;generalize LL (enc n)=ns,LL (enc d)=ds,LL (enc g)=gs at*;generalize LL (enc nn)=q1,LL (enc dd)=q2,LL (enc m1)=x1,LL (enc m2)=x2 at*;simp only[LL,Qc2];simp[f187,o1,c1,c2,c3,c4,c5,k1,k2,hln]
   ·have e2:d_ (d / g) 1=1:=by
     have:0<d / g:=Xy1 (X00 hd0 hdv) hg;unfold d_;rw[if_neg ae,if_neg hd1]
    rw[e2]at c5;rw[if_neg hd1];generalize d / g=dd,n / g=nn,n % g=m1,d % g=m2 at*;simp only[fq,raw,LD]at c1 c2 c3 c4 c5 k1 k2 ⊢;generalize LL (enc n)=ns,LL (enc d)=ds,LL (enc g)=gs at*;generalize LL (enc nn)=q1,LL (enc dd)=q2,LL (enc m1)=x1,LL (enc m2)=x2 at*;simp[f187,o1,c1,c2,c3,c4,c5,k1,k2,hln]
abbrev adF:Nat:=186
abbrev ajI:bO:=f186
abbrev agU:Nat:=232
abbrev alO:bO:=f232
abbrev ajJ:Nat:=116
abbrev amA:bO:=f116
abbrev ajK:Nat:=114
abbrev amB:bO:=f114
abbrev ajL:Nat:=191
abbrev amC:bO:=f191
theorem pF {a b:Nat}(ha:sz a<=1000000)(hb:sz b<=1000000):Ca E0 Uo [.d (LD (enc a)),.d (LD (enc b))] (.d (LD (enc (a*b))),none):=by
 unfold sz at ha hb;have:=Js (enc a) (enc b) ae ae (aV _) (aV _);simpa only[a_] using this
theorem UD {a b:Nat}(ha:sz a<=1000000)(hb:sz b<=1000000):Ca E0 acp [.d (LD (enc a)),.d (LD (enc b))] (.d (LD (enc (a+b))),none):=by
 unfold sz at ha hb;have:=ZA (enc a) (enc b) ae ae (aV _) (aV _);simpa only[a_] using this
theorem FH {a b:Nat}(ha:sz a<=1000000)(hb:b<=a):Ca E0 Uj [.d (LD (enc a)),.d (LD (enc b))] (.d (LD (enc (a-b))),none):=by
 unfold sz at ha;have:=BQ (enc a) (enc b) ae (bL hb) (aV _) (aV _) (by simpa only[a_] using hb);simpa only[a_] using this
theorem ZN {a b:Nat}(ha:sz a<=1000000)(hb:sz b<=1000000):Ca E0 ado [.d (LD (enc a)),.d (LD (enc b))] (dI (d_ a b),none):=by
 unfold sz at ha hb;have:=yN (enc a) (enc b) ae ae (aV _) (aV _);simpa only[a_] using this
theorem ZO (s:Bool)(n d:Nat):Ca E0 agU [.d (fq s n d)] (.d (fq (!s) n d),none):=by
 refine Ca.bQ (n:=60) ?_;rw[aA rfl (aO 232 f232:E0.fn _=_) rfl];simp only[fq,LD];generalize LL (enc n)=ns;generalize LL (enc d)=ds;simp[f232]
def qp (s1:Bool)(a:Nat)(s2:Bool)(b:Nat):Bool:=if s1=s2 then s1 else if b<=a then s1 else s2
def oN (s1:Bool)(a:Nat)(s2:Bool)(b:Nat):Nat:=if s1=s2 then a+b else if b<=a then a-b else b-a
theorem w9 {s1 s2:Bool}{a b:Nat}:sz (oN s1 a s2 b)<=max (sz a) (sz b)+1:=by
 unfold oN;split
 ·exact MC a b
 ·split
  ·have:=qo (Nat.sub_le a b);omega
  ·have:=qo (Nat.sub_le b a);omega
theorem OZ (s1 s2:Bool)(a b:Nat):uX (qp s1 a s2 b) (oN s1 a s2 b)=uX s1 a+uX s2 b:=by
 unfold qp oN
 by_cases h:s1=s2
 ·subst h;simp only[if_true];cases s1<;>simp[uX]<;>omega
 ·rw[if_neg h,if_neg h]
  by_cases hab:b<=a
  ·rw[if_pos hab,if_pos hab];cases s1<;>cases s2<;>simp_all[uX]<;>omega
  ·rw[if_neg hab,if_neg hab];cases s1<;>cases s2<;>simp_all[uX]<;>omega
theorem JD (s1 s2:Bool){n1 d1 n2 d2:Nat}(h1:sz n1<=200000)(h2:sz d1<=200000)(h3:sz n2<=200000)(h4:sz d2<=200000) :
  Ca E0 adF [.d (fq s1 n1 d1),.d (fq s2 n2 d2)] (.d (fq (qp s1 (n1*d2) s2 (n2*d1)) (oN s1 (n1*d2) s2 (n2*d1)) (d1*d2)),none):=by
 have b1:=fe n1 d2;have b2:=fe n2 d1;obtain⟨k1,t1⟩:=(pF (a:=n1) (b:=d2) ae ae).any;obtain⟨k2,t2⟩:=(pF (a:=n2) (b:=d1) ae ae).any;obtain⟨k3,t3⟩:=(pF (a:=d1) (b:=d2) ae ae).any;generalize n1*d2=a,n2*d1=b,d1*d2=d at*;obtain⟨k4,t4⟩:=(UD (a:=a) (b:=b) ae ae).any;obtain⟨k5,t5⟩:=(ZN (a:=a) (b:=b) ae ae).any
 by_cases hs:s1=s2
 ·subst hs;replace t1:=t1 (k1+k2+k3+k4) ae;replace t2:=t2 (k1+k2+k3+k4) ae;replace t3:=t3 (k1+k2+k3+k4) ae;replace t4:=t4 (k1+k2+k3+k4) ae;generalize k1+k2+k3+k4=N at*;refine Ca.bQ (n:=N+80) ?_;rw[aA rfl (k186:E0.fn _=_) rfl];simp only[fq,qp,oN,if_true,LD]at*;generalize LL (enc n1)=x1,LL (enc n2)=x2,LL (enc d1)=x3,LL (enc d2)=x4,LL (enc (a+b))=x5,LL (enc a)=x6,LL (enc b)=x7 at*;generalize LL (enc d)=x8 at*;simp[f186,t1,t2,t3,t4]
 ·have hbq:(s1==s2)=false:=by simpa using hs
  by_cases hab:b<=a
  ·obtain⟨k6,t6⟩:=(FH (a:=a) (b:=b) ae hab).any;replace t1:=t1 (k1+k2+k3+k5+k6) ae;replace t2:=t2 (k1+k2+k3+k5+k6) ae;replace t3:=t3 (k1+k2+k3+k5+k6) ae;replace t5:=t5 (k1+k2+k3+k5+k6) ae;replace t6:=t6 (k1+k2+k3+k5+k6) ae;generalize k1+k2+k3+k5+k6=N at*;have hc:(0:Int)<=d_ a b:=by unfold d_;rw[if_neg ae];split<;>omega
   refine Ca.bQ (n:=N+80) ?_;rw[aA rfl (k186:E0.fn _=_) rfl];simp only[fq,qp,oN,if_neg hs,if_pos hab,LD]at*;generalize d_ a b=cc,LL (enc n1)=x1,LL (enc n2)=x2,LL (enc d1)=x3,LL (enc d2)=x4,LL (enc (a-b))=x5,LL (enc a)=x6,LL (enc b)=x7 at*;generalize LL (enc d)=x8 at*;simp[f186,t1,t2,t3,t5,t6,hbq,hc]
  ·obtain⟨k6,t6⟩:=(FH (a:=b) (b:=a) ae ae).any;replace t1:=t1 (k1+k2+k3+k5+k6) ae;replace t2:=t2 (k1+k2+k3+k5+k6) ae;replace t3:=t3 (k1+k2+k3+k5+k6) ae;replace t5:=t5 (k1+k2+k3+k5+k6) ae;replace t6:=t6 (k1+k2+k3+k5+k6) ae;generalize k1+k2+k3+k5+k6=N at*;have hc:d_ a b=-1:=by unfold d_;rw[if_pos ae]
   rw[hc]at t5;refine Ca.bQ (n:=N+80) ?_;rw[aA rfl (k186:E0.fn _=_) rfl];simp only[fq,qp,oN,if_neg hs,if_neg hab,LD]at*;generalize LL (enc n1)=x1,LL (enc n2)=x2,LL (enc d1)=x3,LL (enc d2)=x4,LL (enc (b-a))=x5,LL (enc a)=x6,LL (enc b)=x7 at*;generalize LL (enc d)=x8 at*;simp[f186,t1,t2,t3,t5,t6,hbq]
theorem ou (x:Rat):uX (qs x) x.num.natAbs=x.num:=by
 unfold uX qs
 by_cases h:x.num<0
 ·rw[if_pos (by simpa using h)];omega
 ·rw[if_neg (by simpa using h)];omega
theorem O0 (s1 s2:Bool)(a b:Nat):uX (s1 != s2) (a*b)=uX s1 a*uX s2 b:=by
 cases s1<;>cases s2<;>simp[uX,Int.neg_mul,Int.mul_neg]
theorem den_pos (x:Rat):0<x.den:=Nat.pos_of_ne_zero x.den_nz
theorem Hg (x y:Rat):wZ (qs x != qs y) (x.num.natAbs*y.num.natAbs) (x.den*y.den)=x*y:=by
 unfold wZ;rw[O0,ou,ou,Rat.mul_def']
theorem Hl (x y:Rat):wZ (qp (qs x) (x.num.natAbs*y.den) (qs y) (y.num.natAbs*x.den)) (oN (qs x) (x.num.natAbs*y.den) (qs y) (y.num.natAbs*x.den)) (x.den*y.den)=x+y:=by
 unfold wZ;rw[OZ,Rat.add_def']
 congr 1
 have h:=fun(s:Bool) (a b:Nat)=>show uX s (a*b)=uX s a*(b:Int) by cases s<;>simp[uX,Int.neg_mul]
 rw[h,h,ou,ou]
theorem O1 (x y:Rat):wZ (qp (qs x) (x.num.natAbs*y.den) (!qs y) (y.num.natAbs*x.den)) (oN (qs x) (x.num.natAbs*y.den) (!qs y) (y.num.natAbs*x.den)) (x.den*y.den)=x-y:=by
 unfold wZ;rw[OZ,Rat.sub_def']
 congr 1
 have h:=fun(s:Bool) (a b:Nat)=>show uX s (a*b)=uX s a*(b:Int) by cases s<;>simp[uX,Int.neg_mul]
 have h2:=fun(s:Bool) (a:Nat)=>show uX (!s) a=- uX s a by cases s<;>simp[uX]
 rw[h,h,h2,ou,ou,Int.neg_mul];omega
theorem vU (x y:Rat):qz (x*y)<=qz x+qz y:=by
 rw[<-Hg];refine Qc1 (Ch (Xc0 (den_pos x) (den_pos y))) ?_;have h1:=fe x.num.natAbs y.num.natAbs;have h2:=fe x.den y.den;unfold qz;omega
theorem qw (x y:Rat):qz (x+y)<=qz x+qz y+1:=by
 rw[<-Hl];refine Qc1 (Ch (Xc0 (den_pos x) (den_pos y))) ?_;have h1:=fe x.num.natAbs y.den;have h2:=fe y.num.natAbs x.den;have h3:=fe x.den y.den;have h4:=@w9 (qs x) (qs y) (x.num.natAbs*y.den) (y.num.natAbs*x.den);unfold qz;omega
theorem UE (x y:Rat):qz (x-y)<=qz x+qz y+1:=by
 rw[<-O1];refine Qc1 (Ch (Xc0 (den_pos x) (den_pos y))) ?_;have h1:=fe x.num.natAbs y.den;have h2:=fe y.num.natAbs x.den;have h3:=fe x.den y.den;have h4:=@w9 (qs x) (!qs y) (x.num.natAbs*y.den) (y.num.natAbs*x.den);unfold qz;omega
theorem O3 (x y:Rat)(hx:qz x<=100000)(hy:qz y<=100000):Ca E0 ajJ [.d (qD x),.d (qD y)] (.d (qD (x*y)),none):=by
 obtain⟨k1,t1⟩:=(vS x ae).any;obtain⟨k2,t2⟩:=(vS y ae).any;have hx1:sz x.num.natAbs<=100000:=Qc1 (Q01 _ _) hx;have hx2:sz x.den<=100000:=Qc1 (Qy2 _ _) hx;have hy1:sz y.num.natAbs<=100000:=Qc1 (Q01 _ _) hy;have hy2:sz y.den<=100000:=Qc1 (Qy2 _ _) hy;have b1:=fe x.num.natAbs y.num.natAbs;have b2:=fe x.den y.den;obtain⟨k3,t3⟩:=(pF (a:=x.num.natAbs) (b:=y.num.natAbs) ae ae).any;obtain⟨k4,t4⟩:=(pF (a:=x.den) (b:=y.den) ae ae).any;obtain⟨k5,t5⟩:=(Bl (s:=qs x != qs y) (n:=x.num.natAbs*y.num.natAbs) (d:=x.den*y.den) ae ae (Xc0 (den_pos x) (den_pos y))).any;rw[Hg]at t5;replace t1:=t1 (k1+k2+k3+k4+k5) ae;replace t2:=t2 (k1+k2+k3+k4+k5) ae;replace t3:=t3 (k1+k2+k3+k4+k5) ae;replace t4:=t4 (k1+k2+k3+k4+k5) ae;replace t5:=t5 (k1+k2+k3+k4+k5) ae;generalize k1+k2+k3+k4+k5=N at*;refine Ca.bQ (n:=N+80) ?_;rw[aA rfl (aO 116 f116:E0.fn _=_) rfl];simp only[fqR,fq]at t1 t2 t3 t4 t5;generalize x.num.natAbs*y.num.natAbs=n,x.den*y.den=d at*;simp only[qD,raw,LD]at*;generalize qs x=s1,qs y=s2,LL (enc x.num.natAbs)=x1,LL (enc y.num.natAbs)=x2,LL (enc x.den)=x3,LL (enc y.den)=x4,LL (qn x)=z1,LL (qn y)=z2,LL (qd x)=z3,LL (qd y)=z4,LL (enc n)=x7,LL (enc d)=x8,LL (qn (x*y))=x9,LL (qd (x*y))=y1,qs (x*y)=sg at*;simp only[bne]at t5;simp[f116,t1,t2,t3,t4,t5]
theorem Bn (x y:Rat)(hx:qz x<=100000)(hy:qz y<=100000):Ca E0 ajK [.d (qD x),.d (qD y)] (.d (qD (x+y)),none):=by
 obtain⟨k1,t1⟩:=(vS x ae).any;obtain⟨k2,t2⟩:=(vS y ae).any;have hx1:sz x.num.natAbs<=100000:=Qc1 (Q01 _ _) hx;have hx2:sz x.den<=100000:=Qc1 (Qy2 _ _) hx;have hy1:sz y.num.natAbs<=100000:=Qc1 (Q01 _ _) hy;have hy2:sz y.den<=100000:=Qc1 (Qy2 _ _) hy;have b1:=fe x.num.natAbs y.den;have b2:=fe y.num.natAbs x.den;have b3:=fe x.den y.den;have b4:=@w9 (qs x) (qs y) (x.num.natAbs*y.den) (y.num.natAbs*x.den);obtain⟨k3,t3⟩:=(JD (qs x) (qs y) (n1:=x.num.natAbs) (d1:=x.den) (n2:=y.num.natAbs) (d2:=y.den) ae ae ae ae).any;obtain⟨k5,t5⟩:=(Bl (s:=qp (qs x) (x.num.natAbs*y.den) (qs y) (y.num.natAbs*x.den)) (n:=oN (qs x) (x.num.natAbs*y.den) (qs y) (y.num.natAbs*x.den)) (d:=x.den*y.den) ae ae (Xc0 (den_pos x) (den_pos y))).any;rw[Hl]at t5;replace t1:=t1 (k1+k2+k3+k5) ae;replace t2:=t2 (k1+k2+k3+k5) ae;replace t3:=t3 (k1+k2+k3+k5) ae;replace t5:=t5 (k1+k2+k3+k5) ae;generalize k1+k2+k3+k5=N,oN (qs x) (x.num.natAbs*y.den) (qs y) (y.num.natAbs*x.den)=n,qp (qs x) (x.num.natAbs*y.den) (qs y) (y.num.natAbs*x.den)=ss,x.den*y.den=d at*;refine Ca.bQ (n:=N+80) ?_;rw[aA rfl (aO 114 f114:E0.fn _=_) rfl];simp only[fqR,fq,qD,raw,LD]at*;generalize qs x=s1,qs y=s2,LL (enc x.num.natAbs)=x1,LL (enc y.num.natAbs)=x2,LL (enc x.den)=x3,LL (enc y.den)=x4,LL (qn x)=z1,LL (qn y)=z2,LL (qd x)=z3,LL (qd y)=z4,LL (enc n)=x7,LL (enc d)=x8,LL (qn (x+y))=x9,LL (qd (x+y))=y1,qs (x+y)=sg at*;simp[f114,t1,t2,t3,t5]
theorem ZP (x y:Rat)(hx:qz x<=100000)(hy:qz y<=100000):Ca E0 ajL [.d (qD x),.d (qD y)] (.d (qD (x-y)),none):=by
 obtain⟨k1,t1⟩:=(vS x ae).any;obtain⟨k2,t2⟩:=(vS y ae).any;have hx1:sz x.num.natAbs<=100000:=Qc1 (Q01 _ _) hx;have hx2:sz x.den<=100000:=Qc1 (Qy2 _ _) hx;have hy1:sz y.num.natAbs<=100000:=Qc1 (Q01 _ _) hy;have hy2:sz y.den<=100000:=Qc1 (Qy2 _ _) hy;have b1:=fe x.num.natAbs y.den;have b2:=fe y.num.natAbs x.den;have b3:=fe x.den y.den;have b4:=@w9 (qs x) (!qs y) (x.num.natAbs*y.den) (y.num.natAbs*x.den);obtain⟨k3,t3⟩:=(JD (qs x) (!qs y) (n1:=x.num.natAbs) (d1:=x.den) (n2:=y.num.natAbs) (d2:=y.den) ae ae ae ae).any;obtain⟨k4,t4⟩:=(ZO (qs y) y.num.natAbs y.den).any;obtain⟨k5,t5⟩:=(Bl (s:=qp (qs x) (x.num.natAbs*y.den) (!qs y) (y.num.natAbs*x.den)) (n:=oN (qs x) (x.num.natAbs*y.den) (!qs y) (y.num.natAbs*x.den)) (d:=x.den*y.den) ae ae (Xc0 (den_pos x) (den_pos y))).any;rw[O1]at t5;replace t1:=t1 (k1+k2+k3+k4+k5) ae;replace t2:=t2 (k1+k2+k3+k4+k5) ae;replace t3:=t3 (k1+k2+k3+k4+k5) ae;replace t4:=t4 (k1+k2+k3+k4+k5) ae;replace t5:=t5 (k1+k2+k3+k4+k5) ae;generalize k1+k2+k3+k4+k5=N,oN (qs x) (x.num.natAbs*y.den) (!qs y) (y.num.natAbs*x.den)=n,qp (qs x) (x.num.natAbs*y.den) (!qs y) (y.num.natAbs*x.den)=ss,x.den*y.den=d at*;refine Ca.bQ (n:=N+80) ?_;rw[aA rfl (aO 191 f191:E0.fn _=_) rfl];simp only[fqR,fq,qD,raw,LD]at*;generalize (!qs y)=s3,qs x=s1 at*;generalize qs y=s2,LL (enc x.num.natAbs)=x1,LL (enc y.num.natAbs)=x2,LL (enc x.den)=x3,LL (enc y.den)=x4,LL (qn x)=z1,LL (qn y)=z2,LL (qd x)=z3,LL (qd y)=z4,LL (enc n)=x7,LL (enc d)=x8,LL (qn (x-y))=x9,LL (qd (x-y))=y1,qs (x-y)=sg at*;simp[f191,t1,t2,t3,t4,t5]
theorem w_ (x:Rat)(hx:qz x<=1000000):Ca E0 134 [.d (qD x)] (dI x.num.sign,none):=by
 obtain⟨N,t⟩:=(vS x hx).get;refine Ca.bQ (n:=N+60) ?_;rw[aA rfl (aO 134 f134:E0.fn _=_) rfl];simp only[fqR,fq,qD,raw,LD]at*;have hq:enc x.num.natAbs=qn x:=rfl;rw[hq]at t;have hs:(LL (qn x)=[]/\x.num.sign=0)\/(LL (qn x)≠[]/\qs x=true/\x.num.sign=-1)\/(LL (qn x)≠[]/\qs x=false/\x.num.sign=1):=by
  have hnil:LL (qn x)=[]↔x.num.natAbs=0:=by simp only[LL,Xr1];exact eH
  rw[Ne,hnil];rcases Q82 x.num 0 with h|h|h
  ·exact .inr (.inl ⟨ae,decide_eq_true h,Q30 h⟩)
  ·exact .inl ⟨ae,by rw[h];rfl⟩
  ·exact .inr (.inr ⟨ae,decide_eq_false ae,Q81 h⟩)
 generalize LL (qn x)=z1,LL (qd x)=z3,LL (enc x.den)=x3,qs x=s at*;rcases hs with ⟨a,b⟩|⟨a,b,c⟩|⟨a,b,c⟩
 ·rw[b];subst a;simp[f134,t]
 ·rw[c];subst b;simp[f134,t,a]
 ·rw[c];subst b;simp[f134,t,a]
theorem z8 (x y:Rat)(hx:qz x<=100000)(hy:qz y<=100000):Ca E0 135 [.d (qD x),.d (qD y)] (dI (x-y).num.sign,none):=by
 obtain⟨k1,t1⟩:=(ZP x y hx hy).any;have:=UE x y;obtain⟨k2,t2⟩:=(w_ (x-y) ae).any;replace t1:=t1 (k1+k2) ae;replace t2:=t2 (k1+k2) ae;generalize k1+k2=N at*;refine Ca.bQ (n:=N+80) ?_;rw[aA rfl (aO 135 f135:E0.fn _=_) rfl];generalize (x-y).num.sign=res at*;simp only[qD,raw,LD]at*;generalize LL (qn x)=z1,LL (qn y)=z2,LL (qd x)=z3,LL (qd y)=z4,LL (qn (x-y))=x9,LL (qd (x-y))=y1 at*;simp[f135,t1,t2]
theorem JE (x:Rat):wZ (qs x) x.num.natAbs x.den=x:=by
 unfold wZ;rw[ou,Rat.mkRat_self]
theorem ZQ (x y:Rat)(hy:y≠0):wZ (qs x != qs y) (x.num.natAbs*y.den) (x.den*y.num.natAbs)=x / y:=by
 have hyn:y.num≠0:=fun h=>hy (Rat.num_eq_zero.1 h)
 have e1:uX (qs x != qs y) (x.num.natAbs*y.den)=x.num*(y.den*y.num.sign):=by
  have h:=O0 (qs x) (qs y) x.num.natAbs y.den;rw[h,ou]
  congr 1
  rcases Q82 y.num 0 with h|h|h
  ·rw[show qs y=true from decide_eq_true h,Q30 h];simp[uX]
  ·exact absurd h hyn
  ·rw[show qs y=false from decide_eq_false ae,Q81 h];simp[uX]
 have e2:((x.den*y.num.natAbs:Nat):Int)=x.den*(y.num*y.num.sign):=by
  rw[Int.mul_sign_self];simp
 have hs:((y.num.sign:Int):Rat)≠0:=by
  intro e;have:y.num.sign=0:=by exact_mod_cast e
  exact hyn (Q91.1 this)
 have hxd:((x.den:Int):Rat)≠0:=by have:=x.den_nz;exact_mod_cast this
 have hyd:((y.den:Int):Rat)≠0:=by have:=y.den_nz;exact_mod_cast this
 have amD:((y.num:Int):Rat)≠0:=by exact_mod_cast hyn
 have hx:x=(x.num:Rat) / ((x.den:Int):Rat):=by
  conv=>lhs;rw[<-Rat.mkRat_self x,Rat.mkRat_eq_div]
  rfl
 have hy':y=(y.num:Rat) / ((y.den:Int):Rat):=by
  conv=>lhs;rw[<-Rat.mkRat_self y,Rat.mkRat_eq_div]
  rfl
 unfold wZ;rw[Rat.mkRat_eq_div,e1];have e3:(((x.den*y.num.natAbs:Nat)):Rat)=((x.den*(y.num*y.num.sign):Int):Rat):=by rw[<-e2];rfl
 rw[e3];simp only[Rat.intCast_mul]
 conv=>rhs;rw[hx,hy']
 generalize ((y.num.sign:Int):Rat)=a,((x.den:Int):Rat)=b,((y.den:Int):Rat)=c,((y.num:Int):Rat)=d,((x.num:Int):Rat)=e at*;grind
theorem adG (x:Rat):qz (-x)=qz x:=by simp[qz]
theorem O4 {n:Nat}(h:n<18446744073709551616):trim [n % 4294967296,n / 4294967296]=enc n:=by
 rw[dm (by intro y hy;simp at hy;omega)]
 congr 1
 simp[val];omega
theorem JF (v:Int)(hv:-9223372036854775808<=v/\v<9223372036854775808):Ca E0 227 [dI v] (.d (.t [vB (decide (v<0)),LD (enc v.natAbs)]),none):=by
 obtain⟨n0,hc⟩:=(iL [v.natAbs % 4294967296,v.natAbs / 4294967296] aC).get;rw[O4 ae]at hc;have hn:v.natAbs<18446744073709551616:=ae;refine Ca.bQ (n:=n0+60) ?_;rw[aA rfl (aO 227 f227:E0.fn _=_) rfl];have w2:ak .u32 (v.natAbs:Int)=((v.natAbs % 4294967296:Nat):Int):=by rw[dU];omega
 have w3:Int.fdiv (v.natAbs:Int) 4294967296=((v.natAbs / 4294967296:Nat):Int):=by
  rw[Ql2 _ ae];omega
 have w4:ak .u32 ((v.natAbs / 4294967296:Nat):Int)=((v.natAbs / 4294967296:Nat):Int):=wrap_u32 ae;have hl:(LL (enc v.natAbs))=LL (enc v.natAbs):=rfl;simp only[LD,LL,Qe2,Qc2]at hc ⊢;generalize List.map (fun(x:Nat)=>D.v (Value.int IntKind.u32 (x:Int))) (enc v.natAbs)=res at*
 by_cases h:v<0
 ·have w1:ak .u64 v=v+18446744073709551616:=by rw[gP];omega
  have w5:IntKind.wrap .u64 (-(v+18446744073709551616))=(v.natAbs:Int):=by rw[<-cZ,gP];omega
  have hd:decide (v<0)=true:=decide_eq_true h;rw[hd];generalize v.natAbs / 4294967296=hi,v.natAbs % 4294967296=lo at*;generalize v.natAbs=va at*;simp[IntKind.bits,f227,rH,h,w1,w2,w3,w4,w5,hc]
 ·have w1:ak .u64 v=(v.natAbs:Int):=by rw[gP];omega
  have hd:decide (v<0)=false:=decide_eq_false h;rw[hd];generalize v.natAbs / 4294967296=hi,v.natAbs % 4294967296=lo at*;generalize v.natAbs=va at*;simp[IntKind.bits,f227,rH,h,w1,w2,w3,w4,hc]
def sw (a b:Int):Rat:=wZ (decide (a<0) != decide (b<0)) a.natAbs b.natAbs
theorem Hm {v:Int}(hv:-9223372036854775808<=v/\v<9223372036854775808):sz v.natAbs<=2:=vg (k:=2) (by
 have:(4294967296:Nat) ^ 2=18446744073709551616:=by rfl
 omega)
theorem ZR (a b:Int)(ha:-9223372036854775808<=a/\a<9223372036854775808)(hb:-9223372036854775808<=b/\b<9223372036854775808)(h0:b≠0) :
  Ca E0 184 [dI a,dI b] (.d (.t [qD (sw a b),vI 0]),none):=by
 have l1:=Hm ha;have l2:=Hm hb;obtain⟨Kq,_,t1,t2,t3⟩:=((JF a ha).j ((JF b hb).j ((Bl (s:=decide (a<0) != decide (b<0)) (n:=a.natAbs) (d:=b.natAbs) ae ae ae).any))).at 0;have e:wZ (decide (a<0) != decide (b<0)) a.natAbs b.natAbs=sw a b:=rfl;rw[e]at t3;generalize Kq=N at*;refine Ca.bQ (n:=N+80) ?_;rw[aA rfl (aO 184 f184:E0.fn _=_) rfl];have hb0:(b==0)=false:=by simpa using h0
 simp only[fq,qD,raw,LD]at*;generalize LL (qn (sw a b))=x9,LL (qd (sw a b))=y1,qs (sw a b)=sg,LL (enc a.natAbs)=x1,LL (enc b.natAbs)=x2,decide (a<0)=s1,decide (b<0)=s2 at*;simp only[bne]at t3;simp[f184,rH,t1,t2,t3,hb0]
theorem UF (a b:Int)(h0:b≠0):sw a b=(a:Rat) / (b:Rat):=by
 have h:∀ v:Int,qs ((v:Int):Rat)=decide (v<0)/\((v:Int):Rat).num=v/\((v:Int):Rat).den=1:=fun v=>⟨by unfold qs;rfl,rfl,rfl⟩
 have hb:((b:Int):Rat)≠0:=by exact_mod_cast h0
 rw[<-ZQ _ _ hb,(h a).1,(h b).1,(h a).2.1,(h a).2.2,(h b).2.1,(h b).2.2];simp[sw]
end Fi.S
