import Derived.Test.YtkekcmgkpdkieaaGreatDoorCA
set_option linter.unusedVariables false
set_option linter.unusedSimpArgs false
noncomputable section
namespace Fi.S
open Go Fi
set_option maxHeartbeats 8000000
theorem BA {n k:Nat}(h1:4294967296 ^ k<=n)(h2:n<4294967296 ^ (k+1)):(enc n).length=k+1:=by
 have a:=gI h2;rcases Qg0 k (enc n).length with h|h
 ·omega
 ·exfalso;have h3:=oK (aW n);rw[a_]at h3;have h4:=Qu1 (n:=4294967296) ae h;omega
theorem Cn {u:Nat}(h:0<u):enc u=u % 4294967296::enc (u / 4294967296):=by
 rw[enc,if_neg ae]
theorem xm (n:Nat):∀ (u:Nat),bI (enc u) n=u / 4294967296 ^ n % 4294967296:=by
 induction n with
 | zero =>
  intro u;rcases Qr1 u with rfl|h
  ·simp[dF,bI]
  ·rw[Cn h];simp[bI]
 | succ n ih =>
  intro u;rcases Qr1 u with rfl|h
  ·simp[dF,bI]
  ·have:bI (enc u) (n+1)=bI (enc (u / 4294967296)) n:=by rw[Cn h];simp[bI]
   rw[this,ih,Q01,Qn2,Ql2]
theorem ZW (k:Nat):∀ {y:Nat},4294967296 ^ k<=y->y<4294967296 ^ (k+1)->∃ lo,enc y=lo++[y / 4294967296 ^ k]/\lo.length=k:=by
 induction k with
 | zero =>
  intro y h1 h2;simp at h1 h2;refine⟨[],?_,rfl⟩;rw[jQ ae ae];simp
 | succ k ih =>
  intro y h1 h2;have hp:0<4294967296 ^ (k+1):=Qs0 ae;obtain⟨lo,e,hl⟩:=ih (y:=y / 4294967296) (by rw[X22 ae,<-Qn2];exact h1) (by rw[Qv0 ae,<-Qn2];exact h2);refine⟨y % 4294967296::lo,?_,by simp[hl]⟩;rw[Cn ae,e,Q01,Qn2,Ql2 (4294967296 ^ k)];rfl
theorem JE {x:Nat}(h:0<x):2 ^ (gK x-1)<=x/\x<2 ^ gK x:=by
 unfold gK;rw[if_neg ae];exact⟨Nat.log2_self_le ae,Nat.lt_log2_self⟩
theorem UJ {y k:Nat}(h1:4294967296 ^ k<=y)(h2:y<4294967296 ^ (k+1)) :
  y*2 ^ (32-gK (y / 4294967296 ^ k))<4294967296 ^ (k+1)/\4294967296 ^ k<=y*2 ^ (32-gK (y / 4294967296 ^ k)):=by
 have hp:0<4294967296 ^ k:=Qs0 ae;have ht0:0<y / 4294967296 ^ k:=Xz0 h1 hp;have ht1:y / 4294967296 ^ k<4294967296:=by rw[Qv0 hp,Ql2,<-Qn2];exact h2
 have hb:=JE ht0;have hb2:=Bz ht1;have hy:y<(y / 4294967296 ^ k+1)*4294967296 ^ k:=by
  have:=Nat.lt_mul_div_succ y hp;rw[Ql2];exact this
 generalize y / 4294967296 ^ k=t at*;have hq:2 ^ gK t*2 ^ (32-gK t)=4294967296:=by rw[<-Qy2,show gK t+(32-gK t)=32 by omega]
 have hr:0<2 ^ (32-gK t):=Qs0 ae;generalize 2 ^ (32-gK t)=r,2 ^ gK t=s at*;constructor
 ·rw[Qn2]
  calc y*r<(t+1)*4294967296 ^ k*r:=Q62 hy hr
   _<=s*4294967296 ^ k*r:=Qf0 _ (Qf0 _ hb.2)
   _=4294967296 ^ k*4294967296:=by rw[Nat.mul_right_comm,hq,Ql2]
 ·exact Qd1 h1 (Xo1 _ hr)
theorem UK {u v k j:Nat}(hv:4294967296 ^ k<=v)(hu:u<v*4294967296 ^ j*4294967296) :
  u / (v*4294967296 ^ j)<=min (u / 4294967296 ^ (j+k) / (v / 4294967296 ^ k)) 4294967295:=by
 have hp:0<4294967296 ^ k:=Qs0 ae;have hp2:0<4294967296 ^ j:=Qs0 ae;have hvt:0<v / 4294967296 ^ k:=Xz0 hv hp;have hw:0<v*4294967296 ^ j:=Xg0 ae hp2;have h1:u / (v*4294967296 ^ j)<4294967296:=by rw[Qv0 hw,Ql2];exact hu
 have h2:=X60 u (v*4294967296 ^ j);have h3:=X60 v (4294967296 ^ k);have:u / (v*4294967296 ^ j)<=u / 4294967296 ^ (j+k) / (v / 4294967296 ^ k):=by
  rw[X22 hvt,X22 (Qs0 ae)];generalize u / (v*4294967296 ^ j)=d,v / 4294967296 ^ k=t at*;rw[Qy2];generalize 4294967296 ^ k=K,4294967296 ^ j=J at*
  calc d*t*(J*K)=d*(t*K*J):=by grind
   _<=d*(v*J):=Qz1 _ (Qf0 _ h3)
   _<=u:=h2
 omega
theorem QX {u n:Nat}(h:u<4294967296 ^ (n+2)):bI (enc u) (n+1)*4294967296+bI (enc u) n=u / 4294967296 ^ n/\bI (enc u) (n+1)<4294967296/\bI (enc u) n<4294967296:=by
 rw[xm,xm];have hp:0<4294967296 ^ n:=Qs0 ae;have h1:u / 4294967296 ^ (n+1)=u / 4294967296 ^ n / 4294967296:=by rw[Q01,Qn2]
 have h2:u / 4294967296 ^ n<4294967296*4294967296:=by
  rw[Qv0 hp];rw[Qy2]at h;have e:(4294967296:Nat) ^ 2=4294967296*4294967296:=by rfl
  rw[e,Ql2]at h;exact h
 rw[h1];generalize u / 4294967296 ^ n=t at*;have h3:t / 4294967296<4294967296:=ae;omega
theorem UL {u w X Q B:Nat}(hB:X=Q*B*w+u):X=(u / w+B*Q)*w+u % w:=by
 have:=Xt1 u w;rw[Qr0,Ql2 B Q,Ql2 (u / w) w];omega
def Bg:aG:=Ai.body.r.r.r.r.r.l.r.bl.lp
def oiB:aG:=Bg.r.l.bl.r.r.r.l.bl.lp
def ZX (up u v:Nat)(es:List D)(L j g p:Nat)(t:FV):St:=(st0 [.u,.u,.ls (.loc 0) 0 1 0 L,.u,.u,.u,dI up,.d (LD (enc u)),.d (LD (enc v)),dI j,.u,.d (.v (.int .u64 g)),.d (LD (enc p)),.u,.u,t] [.row 0 1 es])
theorem MP (up u v L j d:Nat)(es:List D)(hv:0<v)(hj:j<=100000000)(lu:(enc u).length<=100000000)(lv:(enc v).length<=100000000)(lw:(enc (v*4294967296 ^ j*4294967295)).length<=100000000)
  (hd:d=u / (v*4294967296 ^ j)) (g:Nat) (hg:d<=g) (hg2:g<=4294967295) :
  Ex E0 (.loop oiB) (ZX up u v es L j g (v*4294967296 ^ j*g) .u) (.exit 2,ZX up u v es L j d (v*4294967296 ^ j*d) (dB false)):=by
 have hw:0<v*4294967296 ^ j:=Xg0 hv (Qs0 ae);have hl:=Bv (enc v) (32*j) ae lv (aW _);rw[a_,X62,show(2:Nat) ^ 32=4294967296 by rfl]at hl;generalize v*4294967296 ^ j=w at*;have key:=Ex.inv (E:=E0) (b:=oiB) (S:=fun g=>ZX up u v es L j g (w*g) .u) (fun g=>g) (fun g=>d<=g/\g<=4294967295) (fun r=>r=(.exit 2,ZX up u v es L j d (w*d) (dB false))) ?_ g ⟨hg,hg2⟩
 ·obtain⟨r,hr,rfl⟩:=key;exact hr
 ·clear hg hg2 g;rintro g ⟨h1,h2⟩;have lp:(enc (w*g)).length<=100000000:=Qd1 (bL (Qz1 w h2)) lw;obtain⟨n1,hc⟩:=(zi (enc u) (enc (w*g)) ae ae (aW _) (aW _)).any;rw[a_,a_]at hc
  by_cases hlt:d<g
  ·have hu:u<w*g:=by rw[hd,Qv0 hw,Ql2]at hlt;exact hlt
   have hc1:d9 u (w*g)=-1:=by unfold d9;rw[if_pos hu]
   rw[hc1]at hc;have hle:w<=w*g:=Xo1 w ae;obtain⟨n2,hl⟩:=hl.any;obtain⟨n3,hm⟩:=(Cf (enc (w*g)) (enc w) ae (bL hle) (aW _) (aW _) (by rw[a_,a_];exact hle)).any;have hsub:w*g-w=w*(g-1):=by rw[Nat.mul_sub,Xz1]
   rw[a_,a_,hsub]at hm;replace hc:=hc (n1+n2+n3) ae;replace hl:=hl (n1+n2+n3) ae;replace hm:=hm (n1+n2+n3) ae;generalize n1+n2+n3=N at*;refine .inl ⟨g-1,Ex.of (n:=N+60) ?_,ae,ae,ae⟩;have w1:ak .u64 ((g:Int)-1)=((g-1:Nat):Int):=by rw[wrap_u64 ae];omega
   have w2:ak .i64 (32*(j:Int))=((32*j:Nat):Int):=by rw[wrap_i64 ae];omega
   clear hc1 hsub lp lw hd;unfold ZX;simp only[LD]at hc hl hm ⊢;generalize LL (enc u)=us,LL (enc v)=vs,LL (enc w)=ws,LL (enc (w*g))=ps,LL (enc (w*(g-1)))=ps' at*;generalize g-1=g',32*j=j32 at*;simp[Bg,oiB,f226,hc,hl,hm,w1,w2]
  ·have hu:¬ u<w*g:=by rw[hd,Qv0 hw,Ql2]at hlt;exact hlt
   have hg:g=d:=ae;have hc1:(d9 u (w*g):Int)=0\/d9 u (w*g)=1:=by unfold d9;rw[if_neg hu];split<;>simp
   replace hc:=hc n1 ae;refine .inr ⟨_,Ex.of (n:=n1+60) ?_,aC,rfl⟩;rw[<-hg];clear lp lw hd hg;unfold ZX;simp only[LD]at hc ⊢;generalize LL (enc u)=us,LL (enc v)=vs,LL (enc (w*g))=ps at*;rcases hc1 with e|e<;>rw[e]at hc<;>simp[Bg,oiB,f226,hc]
def Co (up u v:Nat)(es:List D)(L:Nat)(k:Int)(t:FV):St:=(st0 [.u,.u,.ls (.loc 0) 0 1 0 L,.u,.u,.u,dI up,.d (LD (enc u)),.d (LD (enc v)),dI k,.u,.u,.u,.u,t,.u] [.row 0 1 es])
theorem MQ (up u v k L j:Nat)(es:List D)(hv:4294967296 ^ k<=v)(hv2:v<4294967296 ^ (k+1))(hj:j<=100000000)(hk:k<=100000000)(lu:(enc u).length<=100000000)(hu:u<4294967296 ^ (j+k+2)) :
  Ex E0 Bg.r.l.bl.r.l {Co up u v es L j .u with vars:=[.u,.u,.ls (.loc 0) 0 1 0 L,.u,.u,.u,dI up,.d (LD (enc u)),.d (LD (enc v)),dI j,dI ((j+k+1:Nat):Int),.u,.u,.u,.u,.u]}
   (.norm,{Co up u v es L j .u with vars:=[.u,.u,.ls (.loc 0) 0 1 0 L,.u,.u,.u,dI up,.d (LD (enc u)),.d (LD (enc v)),dI j,.u,.d (.v (.int .u64 ((min (u / 4294967296 ^ (j+k) / (v / 4294967296 ^ k)) 4294967295:Nat):Int))),.u,.u,.u,.u]}):=by
 have lv:(LL (enc v)).length=k+1:=by simp[LL,BA hv hv2]
 have lv':=BA hv hv2;obtain⟨e1,b1,b2⟩:=QX hu;have e3:bI (enc v) k=v / 4294967296 ^ k:=by
  rw[xm,Qx2];rw[Qv0 (Qs0 ae),Ql2,<-Qn2];exact hv2
 have b3:v / 4294967296 ^ k<4294967296:=by rw[<-e3,xm];exact Qw0 _ ae
 have b4:0<v / 4294967296 ^ k:=Xz0 hv (Qs0 ae);have h1:=fun m=>kJ m (enc u) ae (j+k+1) ae (aW _)
 have h2:=fun m=>kJ m (enc u) ae (j+k) ae (aW _)
 have h3:=fun m=>kJ m (enc v) ae k ae (aW _)
 rw[e3]at h3;rw[<-e1];generalize bI (enc u) (j+k+1)=x1 at*;generalize bI (enc u) (j+k)=x0,v / 4294967296 ^ k=vt at*;have w1:=Uz b1;have w2:=Ch b1 b2;obtain⟨P,hP⟩:∃ P:Nat,(P:Int)=(x1:Int)*4294967296:=⟨x1*4294967296,ae⟩
 obtain⟨T,hT⟩:∃ T:Nat,T=x1*4294967296+x0:=⟨_,rfl⟩
 rw[<-hP]at w1 w2;rw[show(P:Int)+(x0:Int)=(T:Int) by omega]at w2;rw[<-hT];have w5:Int.tdiv (T:Int) (vt:Int)=((T / vt:Nat):Int):=by rw[Q82 ae,X11]
 have hq:T / vt<18446744073709551616:=Xd2 (Xp0 _ _) ae;generalize T / vt=Q at*;have w6:ak .u64 (Q:Int)=(Q:Int):=wrap_u64 ae;have w7:ak .i64 (((j+k+1:Nat):Int)-1)=((j+k:Nat):Int):=by rw[wrap_i64 ae];omega
 have w8:ak .i64 (((k+1:Nat):Int)-1)=(k:Int):=by rw[wrap_i64 ae];omega
 have hd0:¬ ((vt:Int)=0):=ae;have ZO:¬ vt=0:=ae;clear hP hT e1 e3 hu hv hv2;obtain⟨G,hG⟩:∃ G:Nat,G=min Q 4294967295:=⟨_,rfl⟩
 rw[<-hG];have hmin:((4294967295:Int)<(Q:Int)/\(G:Int)=4294967295)\/(¬ (4294967295:Int)<(Q:Int)/\(Q:Int)=(G:Int)):=ae;clear hG;refine Ex.of (n:=90) ?_;unfold Co;simp only[LD]at h1 h2 h3 ⊢;generalize LL (enc u)=us,LL (enc v)=vs,j+k+1=n at*;generalize j+k=n1,k+1=m at*;rcases hmin with ⟨a,b⟩|⟨a,b⟩
 ·simp[Bg,f226,lv,h1,h2,h3,w1,w2,w5,w6,w7,w8,hd0,ZO,a,b]
 ·rw[b]at a w5 w6;simp[Bg,f226,lv,h1,h2,h3,w1,w2,w5,w6,w7,w8,hd0,ZO,a]
theorem UM (up u v L:Nat)(es:List D):EX E0 60 Bg (Co up u v es L (-1) .u)=some (.exit 0,Co up u v es L (-1) (dB false)):=by
 unfold Co;simp only[LD];generalize LL (enc u)=us,LL (enc v)=vs at*;simp[Bg,f226]
theorem QY (up u v L j g:Nat)(es:List D)(hj:j<=100000000)(hg:g<=4294967295)(lv:(enc v).length<=10000000) :
  Ex E0 Bg.r.l.bl.r.r.l {Co up u v es L j .u with vars:=[.u,.u,.ls (.loc 0) 0 1 0 L,.u,.u,.u,dI up,.d (LD (enc u)),.d (LD (enc v)),dI j,.u,.d (.v (.int .u64 g)),.u,.u,.u,.u]}
   (.norm,ZX up u v es L j g (v*4294967296 ^ j*g) .u):=by
 have lg:(enc g).length<=1:=gI (k:=1) ae;have lvg:(enc (v*g)).length<=100000000:=by
  refine Qd1 (gI (k:=(enc v).length+1) ?_) ae;have h1:=oK (aW v);rw[a_]at h1;rw[Qn2];exact Xd2 (Qz1 v (show g<=4294967296 by omega)) (Q62 h1 ae)
 obtain⟨Kq,_,h1,h2,h3⟩:=((iP [g] aC).j ((Jy (enc v) (enc g) ae ae (aW _) (aW _)).j ((Bv (enc (v*g)) (32*j) ae lvg (aW _)).any))).at 0;rw[Jz _ ae]at h1;rw[a_,a_]at h2;rw[a_,X62,show(2:Nat) ^ 32=4294967296 by rfl]at h3;rw[show v*g*4294967296 ^ j=v*4294967296 ^ j*g by rw[Nat.mul_right_comm]]at h3;generalize Kq=N at*;have w1:ak .u32 (g:Int)=(g:Int):=wrap_u32 ae;have w2:ak .i64 (32*(j:Int))=((32*j:Nat):Int):=by rw[wrap_i64 ae];omega
 refine Ex.of (n:=N+60) ?_;unfold Co ZX;simp only[LD,LL,Qd2,Qc2]at h1 h2 h3 ⊢;generalize List.map (fun(x:Nat)=>D.v (Value.int IntKind.u32 (x:Int))) (enc u)=us at*;generalize List.map (fun(x:Nat)=>D.v (Value.int IntKind.u32 (x:Int))) (enc v)=vs at*;generalize List.map (fun(x:Nat)=>D.v (Value.int IntKind.u32 (x:Int))) (enc g)=gs at*;generalize List.map (fun(x:Nat)=>D.v (Value.int IntKind.u32 (x:Int))) (enc (v*g))=vgs at*;generalize List.map (fun(x:Nat)=>D.v (Value.int IntKind.u32 (x:Int))) (enc (v*4294967296 ^ j*g))=ps at*;generalize 32*j=j32 at*;simp[Bg,f226,h1,h2,h3,w1,w2]
theorem MR (up u v k L j:Nat)(qs:List Nat)(hv:4294967296 ^ k<=v)(hv2:v<4294967296 ^ (k+1))(hj:j<=50000000)(hk:k<=1000000)(lu:(enc u).length<=100000000)(hu:u<v*4294967296 ^ j*4294967296)
  (hL:j+1+qs.length=L) :
  Ex E0 Bg (Co up u v (LL (kE (j+1) qs)) L j .u) (.norm,Co up (u % (v*4294967296 ^ j)) v (LL (kE j (u / (v*4294967296 ^ j)::qs))) L ((j:Int)-1) .u):=by
 have hv0:0<v:=Ql0 (Qs0 ae) hv;have hw:0<v*4294967296 ^ j:=Xg0 hv0 (Qs0 ae);have lv:=BA hv hv2;have hdig:=UK hv hu;have hd32:u / (v*4294967296 ^ j)<4294967296:=by rw[Qv0 hw,Ql2];exact hu
 have hu2:u<4294967296 ^ (j+k+2):=by
  refine Ql0 hu ?_;rw[show j+k+2=(k+1)+j+1 by omega,Qn2,Qy2];exact Qf0 _ (Qf0 _ ae)
 have lw:(enc (v*4294967296 ^ j*4294967295)).length<=100000000:=by
  refine Qd1 (gI (k:=(k+1)+j+1) ?_) ae;rw[Qn2,Qy2];exact Xd2 (Qz1 _ (show 4294967295<=4294967296 by omega)) (Q62 (Q62 hv2 (Qs0 ae)) ae)
 have adY:=MQ up u v k L j (LL (kE (j+1) qs)) hv hv2 ae ae lu hu2;have ahb:=QY up u v L j (min (u / 4294967296 ^ (j+k) / (v / 4294967296 ^ k)) 4294967295) (LL (kE (j+1) qs)) ae (Nat.min_le_right ..) ae;have adZ:=MP up u v L j (u / (v*4294967296 ^ j)) (LL (kE (j+1) qs)) hv0 ae lu ae lw rfl _ hdig (Nat.min_le_right ..);have hmul:v*4294967296 ^ j*(u / (v*4294967296 ^ j))<=u:=Nat.mul_div_le u _;obtain⟨n1,hm⟩:=(Cf (enc u) (enc (v*4294967296 ^ j*(u / (v*4294967296 ^ j)))) ae (bL hmul) (aW _) (aW _) (by rw[a_,a_];exact hmul)).get;have hmod:u-v*4294967296 ^ j*(u / (v*4294967296 ^ j))=u % (v*4294967296 ^ j):=by
  have:=Xt1 u (v*4294967296 ^ j);omega
 rw[a_,a_,hmod]at hm;have hz:=O_ qs j;have hset:=Jt qs j (u / (v*4294967296 ^ j));have hlen:=rZ qs (j+1);have hlv:(LL (enc v)).length=k+1:=by simp[LL,lv]
 generalize LL (kE (j+1) qs)=es at*;rw[<-hset];clear hset;generalize u / (v*4294967296 ^ j)=d,min (u / 4294967296 ^ (j+k) / (v / 4294967296 ^ k)) 4294967295=g at*;generalize v*4294967296 ^ j=w at*;have hjL:j<L:=ae;have hz2:=idx hz;have w1:ak .i64 ((j:Int)+((k+1:Nat):Int))=((j+k+1:Nat):Int):=by rw[wrap_i64 ae];omega
 have w2:ak .u32 (d:Int)=(d:Int):=wrap_u32 ae;have w3:ak .i64 ((j:Int)-1)=(j:Int)-1:=wrap_i64 ae;have w4:(0:Int)<=(j:Int):=ae;show Ex E0 (.seq Bg.l (.seq (.block 1 (.seq Bg.r.l.bl.l (.seq Bg.r.l.bl.r.l (.seq Bg.r.l.bl.r.r.l (.seq (.block 2 (.loop oiB)) (.seq Bg.r.l.bl.r.r.r.r.l Bg.r.l.bl.r.r.r.r.r)))))) Bg.r.r)) _ _;refine Ex.seq (st1:=Co up u v es L j (dB true)) (Ex.of (n:=40) ?_) (Ex.seq (st1:=Co up (u % w) v (es.set j (.v (.int .u32 (d:Int)))) L j .u) (Ex.fE (Ex.seq (Ex.of (n:=40) ?_) (Ex.seq adY (Ex.seq ahb (Ex.seq adZ.block
  (Ex.seq (st1:={Co up (u % w) v es L j .u with vars:=[.u,.u,.ls (.loc 0) 0 1 0 L,.u,.u,.u,dI up,.d (LD (enc (u % w))),.d (LD (enc v)),dI j,.u,.d (.v (.int .u64 d)),.u,.u,.u,.u]}) (Ex.of (n:=n1+40) ?_) (Ex.of (n:=40) ?_))))))) (Ex.of (n:=40) ?_))
 ·unfold Co;simp only[LD];generalize LL (enc u)=us at*;generalize LL (enc v)=vs at*;simp[Bg,f226,w4]
 ·unfold Co;simp only[LD];generalize LL (enc u)=us at*;generalize LL (enc v)=vs at*;generalize j+k+1=n at*;generalize k+1=m at*;simp[Bg,f226,hlv,w1]
 ·unfold Co ZX;simp only[LD]at hm ⊢;generalize LL (enc u)=us at*;generalize LL (enc v)=vs at*;generalize LL (enc (u % w))=ms at*;generalize LL (enc (w*d))=ps at*;simp[Bg,f226,hm]
 ·unfold Co;simp only[LD];generalize LL (enc (u % w))=us at*;generalize LL (enc v)=vs at*;simp[Bg,f226,hz,hz2,w2,w4,hjL,hlen]
 ·unfold Co;simp only[LD];generalize LL (enc (u % w))=us at*;generalize LL (enc v)=vs at*;simp[Bg,f226,w3]
theorem QZ (up u0 v k L:Nat)(hv:4294967296 ^ k<=v)(hv2:v<4294967296 ^ (k+1))(hL:L<=50000000)(hk:k<=1000000)(lu:(enc u0).length<=100000000)(hu:u0<v*4294967296 ^ L) :
  ∃ r,Ex E0 (.loop Bg) (Co up u0 v (LL (kE L [])) L ((L:Int)-1) .u) r /\
   ∃ qs,cu qs/\qs.length=L/\val qs=u0 / v/\r=(.exit 0,Co up (u0 % v) v (LL qs) L (-1) (dB false)):=by
 have hv0:0<v:=Ql0 (Qs0 ae) hv;refine Ex.inv (S:=fun t:Nat × Nat × List Nat=>Co up t.2.1 v (LL (kE t.1 t.2.2)) L ((t.1:Int)-1) .u) (fun t=>t.1)
  (fun t=>t.1+t.2.2.length=L/\cu t.2.2/\t.2.1<v*4294967296 ^ t.1/\u0=val t.2.2*4294967296 ^ t.1*v+t.2.1) _ ?_ (L,u0,[]) ?_
 ·rintro⟨j,u,qs⟩ ⟨h1,h2,h3,h4⟩;simp only at h1 h2 h3 h4;cases j with
  | zero =>
   simp only[Nat.pow_zero,Xz1]at h3 h4;have hd:u0 / v=val qs:=by rw[h4,Ql2,Xo2 hv0,Xd1 h3];rfl
   have hm:u0 % v=u:=by rw[h4,Ql2,X31,Qx2 h3]
   refine .inr ⟨_,?_,?_,qs,h2,ae,hd.symm,rfl⟩
   ·rw[hm];have:=UM up u v L (LL qs);simpa[kE] using Ex.of this
   ·simp
  | succ j =>
   have hu0:u<=u0:=ae;have hw:0<v*4294967296 ^ j:=Xg0 hv0 (Qs0 ae);have h3':u<v*4294967296 ^ j*4294967296:=by rw[Q81,<-Qn2];exact h3
   have hr:=MR up u v k L j qs hv hv2 ae hk (Qd1 (bL hu0) lu) h3' ae;refine .inl ⟨(j,u % (v*4294967296 ^ j),u / (v*4294967296 ^ j)::qs),?_,aC,?_,?_,?_,?_⟩
   ·simp only;rw[show(((j+1:Nat):Int)-1)=(j:Int) by omega];exact hr
   ·simp only[Qf1];omega
   ·intro y hy;rcases Qj0.1 hy with rfl|hy
    ·rw[Qv0 hw,Ql2];exact h3'
    ·exact h2 y hy
   ·exact Qw0 _ hw
   ·simp only[val];have e:u0=val qs*4294967296*(v*4294967296 ^ j)+u:=by
     rw[h4,Qn2]
     congr 1
     generalize 4294967296 ^ j=P;grind
    rw[Q81,Ql2 _ v];exact UL e
 ·refine⟨aC,?_,by simpa using hu,by simp[val]⟩;intro x hx;cases hx
theorem MS {y:Nat}(hy:0<y):4294967296 ^ ((enc y).length-1)<=y:=by
 rcases Qg0 y (4294967296 ^ ((enc y).length-1)) with h|h
 ·have h1:=gI h;have h2:enc y≠[]:=by intro e;rw[eF]at e;omega
  have h3:0<(enc y).length:=Xj1.2 h2;omega
 ·exact h
theorem zo (y:Nat):y<4294967296 ^ (enc y).length:=by
 have:=oK (aW y)
 rwa [a_]at this
theorem Hl (x y:Nat)(hy:0<y)(lx:(enc x).length<=1000000)(ly:(enc y).length<=1000000) :
  Ca E0 acH [.d (LD (enc x)),.d (LD (enc y))] (.d (.t [LD (enc (x / y)),LD (enc (x % y))]),none):=by
 by_cases hsm:y<4294967296
 ·have:=UF (enc x) y ae (aW x) hsm hy
  rwa [a_]at this
 ·have amd:0<(enc y).length:=Xj1.2 (by intro e;rw[eF]at e;omega);obtain⟨k,hk⟩:∃ k,(enc y).length=k+1:=⟨(enc y).length-1,ae⟩
  have h1:4294967296 ^ k<=y:=by have:=MS hy;rw[hk]at this;simpa using this
  have h2:y<4294967296 ^ (k+1):=by have:=zo y;rwa [hk]at this
  have hk1:1<=k:=by
   rcases Qr1 k with rfl|h
   ·simp at h2;omega
   ·exact h
  obtain⟨lo,htop,hlo⟩:=ZW k h1 h2;obtain⟨g1,g2⟩:=UJ h1 h2;have ht1:y / 4294967296 ^ k<4294967296:=by rw[Qv0 (Qs0 ae),Ql2,<-Qn2];exact h2
  have hbl:=Bz ht1;have Hm:=fun m=>MN m lo (y / 4294967296 ^ k) ht1 ae
  rw[<-htop,hlo]at Hm;generalize hbe:gK (y / 4294967296 ^ k)=bl at*;generalize hup:32-bl=up at*;have ahc:up<=32:=ae;obtain⟨n1,hlx⟩:=(Bv (enc x) up ae ae (aW x)).any;obtain⟨n2,hly⟩:=(Bv (enc y) up ae ae (aW y)).any;rw[a_]at hlx hly;have hp:0<2 ^ up:=Qs0 ae;have lu:(enc (x*2 ^ up)).length<=(enc x).length+1:=by
   refine gI ?_;rw[Qn2];have e1:=zo x;have e2:2 ^ up<=4294967296:=by
    have:=Qu1 (n:=2) ae ahc;simpa using this
   exact Ql0 (Q62 e1 hp) (Qz1 _ e2)
  have hq:(x*2 ^ up) / (y*2 ^ up)=x / y:=Nat.mul_div_mul_right x y hp;have hr:(x*2 ^ up) % (y*2 ^ up)=x % y*2 ^ up:=Nat.mul_mod_mul_right (2 ^ up) x y;have hr2:x % y*2 ^ up / 2 ^ up=x % y:=Nat.mul_div_cancel _ hp;have hlv:(enc (y*2 ^ up)).length=k+1:=BA g2 g1;have lr:(enc (x % y*2 ^ up)).length<=100000000:=Qd1 (bL (Qf0 _ (Nat.mod_le x y))) ae;obtain⟨n3,Ho⟩:=(UH (enc (x % y*2 ^ up)) up ae lr (aW _)).any;rw[a_,hr2]at Ho;have hu0:x*2 ^ up<y*2 ^ up*4294967296 ^ ((enc (x*2 ^ up)).length-k):=by
   refine Ql0 (zo (x*2 ^ up)) ?_;refine Qd1 ?_ (Qf0 _ g2);rw[<-Qy2];exact Qu1 ae ae
  obtain⟨r,hloop,qs,hqs,hql,hqv,rfl⟩:=QZ up (x*2 ^ up) (y*2 ^ up) k ((enc (x*2 ^ up)).length-k) g2 g1 ae ae ae hu0;rw[hq]at hqv;rw[hr]at hloop;obtain⟨n4,hc⟩:=(iP qs ae).any;rw[dm hqs,hqv]at hc;replace hlx:=hlx (n1+n2+n3+n4) ae;replace hly:=hly (n1+n2+n3+n4) ae;replace Ho:=Ho (n1+n2+n3+n4) ae;replace hc:=hc (n1+n2+n3+n4) ae;generalize n1+n2+n3+n4=N at*;have hlY:(LL (enc y)).length=k+1:=by simp[LL,hk]
  have hlV:(LL (enc (y*2 ^ up))).length=k+1:=by simp[LL,hlv]
  have hlU:(LL (enc (x*2 ^ up))).length=(enc (x*2 ^ up)).length:=by simp[LL]
  have hlQ:(LL qs).length=(enc (x*2 ^ up)).length-k:=by simp[LL,hql]
  have hz:LL (kE ((enc (x*2 ^ up)).length-k) [])=List.replicate ((enc (x*2 ^ up)).length-k) (.v (.int .u32 0)):=by simp[LL,kE]
  have hLb:(enc (x*2 ^ up)).length-k<=2000000:=ae;have hmax:∃ z:Int,z=((enc (x*2 ^ up)).length:Int)-((k+1:Nat):Int)+1/\((z > 0/\z=(((enc (x*2 ^ up)).length-k:Nat):Int))\/(¬ z > 0/\(enc (x*2 ^ up)).length-k=0)):=⟨_,rfl,ae⟩
  obtain⟨z,hze,hzc⟩:=hmax;have lU:(enc (x*2 ^ up)).length<=1000001:=ae;have w1:ak .i64 (32*((k+1:Nat):Int))=((32*(k+1):Nat):Int):=by rw[wrap_i64 ae];omega
  have w2:ak .i64 (((32*(k+1):Nat):Int)-((32*k+bl:Nat):Int))=(up:Int):=by rw[wrap_i64 ae];omega
  have w3:ak .i64 (((enc (x*2 ^ up)).length:Int)-((k+1:Nat):Int))=((enc (x*2 ^ up)).length:Int)-((k+1:Nat):Int):=wrap_i64 ae;have w4:ak .i64 (((enc (x*2 ^ up)).length:Int)-((k+1:Nat):Int)+1)=z:=by rw[wrap_i64 ae,hze]
  have w5:ak .i64 ((((enc (x*2 ^ up)).length-k:Nat):Int)-1)=(((enc (x*2 ^ up)).length-k:Nat):Int)-1:=wrap_i64 ae;have hne:(((k+1:Nat):Int)==1)=false:=by simp;omega
  clear hu0 g1 g2 hq hr hr2 lr hbe htop hlo hql hqs hqv h1 h2 ht1 hbl;generalize hX:enc (x*2 ^ up)=eX at*;generalize hY:enc (y*2 ^ up)=eY at*;refine Ca.body (o:=.ret) (st1:=(st0 (.u::.u::.d (LD (enc (x / y)))::.d (LD (enc (x % y)))::BZ) [.iA 0 1 (LL qs)])) rfl (k226:E0.fn _=_) rfl ?_ (by intro id h;cases h) ?_
  ·show Ex E0 (.seq Ai.body.l (.seq Ai.body.r.l (.seq Ai.body.r.r.l (.seq Ai.body.r.r.r.l (.seq Ai.body.r.r.r.r.l (.seq (.seq Ai.body.r.r.r.r.r.l.l (.block 0 (.loop Bg))) Ai.body.r.r.r.r.r.r)))))) _ _;refine Ex.seq (st1:=(st0 (.d (LD (enc x))::.d (LD (enc y))::G9) [])) (Ex.of (n:=40) ?_)
    (Ex.seq (st1:=(st0 [.d (LD (enc x)),.d (LD (enc y)),.u,.u,.u,.u,.u,.u,.u,.u,.u,.u,.u,dB false,.u,.u] [])) (Ex.of (n:=40) ?_)
    (Ex.seq (st1:=(st0 (.d (LD (enc x))::.d (LD (enc y))::.u::.u::.u::.u::dI up::Jh) [])) (Ex.of (n:=200) ?_)
    (Ex.seq (st1:=(st0 (.u::.u::.u::.u::.u::.u::dI up::.d (LD eX)::.d (LD eY)::qi) [])) (Ex.of (n:=N+40) ?_)
    (Ex.seq (st1:=(st0 (.u::.u::.ls (.loc 0) 0 1 0 (eX.length-k)::.u::.u::.u::dI up::.d (LD eX)::.d (LD eY)::qi) [.row 0 1 (LL (kE (eX.length-k) []))])) (Ex.of (n:=40) ?_)
    (Ex.seq (Ex.seq (Ex.of (n:=40) ?_) hloop.block) (Ex.of (n:=N+40) ?_))))))
   ·simp[f226]
   ·simp only[LD];generalize LL (enc x)=xs,LL (enc y)=ys,k+1=m at*;simp[f226,hlY,hne]
   ·simp only[LD]at Hm ⊢;generalize LL (enc x)=xs,LL (enc y)=ys,k+1=m at*;generalize 32*m=m32,32*k+bl=kb at*;simp[f226,hlY,Hm,w1,w2]
   ·simp only[LD]at hlx hly ⊢;generalize LL (enc x)=xs,LL (enc y)=ys,LL eX=Xs,LL eY=Ys at*;simp[f226,hlx,hly]
   ·have hm1:((eX.length-k:Nat):Int)*4<=1099511627776:=ae;have hm2:((eX.length-k:Nat):Int)<=1099511627776:=ae;rw[hz];generalize eX.length-k=L at*;generalize eX.length=lX at*;simp only[LD];generalize LL eX=Xs,LL eY=Ys,k+1=m at*;rcases hzc with ⟨a,b⟩|⟨a,b⟩
    ·rw[b]at w4 a;replace a:0<L:=ae;simp[f226,hlU,hlV,w3,w4,a,hm1,hm2,most]
    ·subst b;simp[f226,hlU,hlV,w3,w4,a,most]
   ·unfold Co;simp only[hX,hY,LD];have hlR:(LL (kE (eX.length-k) [])).length=eX.length-k:=by rw[rZ];simp
    generalize LL (kE (eX.length-k) [])=es at*;generalize eX.length-k=L,LL eX=Xs,LL eY=Ys at*;simp[f226,w5]
   ·unfold Co;simp only[LD]at hc Ho ⊢;clear hloop;generalize LL (enc (x % y*2 ^ up))=rs,LL (enc (y*2 ^ up))=Ys,LL (enc (x / y))=as1 at*;generalize LL (enc (x % y))=as2,eX.length-k=L at*;have htk:(LL qs).take L=LL qs:=Qe0 ae;generalize LL qs=Qs at*;simp[ai.view,f226,hlQ,htk,hc,Ho]
  ·simp[f226,LD,o8]
theorem MU (a b:Nat)(la:(enc a).length<=1000000)(lb:(enc b).length<=1000000)(hb0:0<b):Ex E0 gcB (EW a b .u) (.norm,EW b (a % b) .u):=by
 obtain⟨n0,ho⟩:=(Hl a b hb0 la lb).get;refine Ex.of (n:=n0+60) ?_;unfold EW;have hlb:∃ m,(LL (enc b)).length=m+1:=by
  have:0<(enc b).length:=Xj1.2 (by intro e;rw[eF]at e;omega);exact⟨(enc b).length-1,by simp[LL];omega⟩
 obtain⟨m,hlb⟩:=hlb;have hm:0<(m:Int)+1:=ae;simp only[LD]at ho ⊢;generalize LL (enc a)=as',LL (enc b)=bs,LL (enc (a / b))=qs,LL (enc (a % b))=rs at*;simp[gcB,f183,hlb,ho,hm]
theorem Q0 (a b:Nat)(la:(enc a).length<=1000000)(lb:(enc b).length<=1000000):Ex E0 (.loop gcB) (EW a b .u) (.exit 0,EW (Nat.gcd a b) 0 (dB false)):=by
 induction b using Nat.strongRecOn generalizing a with
 | ind b ih =>
  rcases Qr1 b with rfl|h0
  ·rw[Nat.gcd_zero_right];exact Ex.out (ZP a) aC
  ·have hm:=Qw0 a h0;have:=ih (a % b) hm b lb (Qd1 (bL ae) lb);have hg:Nat.gcd a b=Nat.gcd b (a % b):=by rw[Xu2 a b,Nat.gcd_rec b a,Xu2]
   rw[hg];exact Ex.next (MU a b la lb h0) this
theorem UN (a b:Nat)(la:(enc a).length<=1000000)(lb:(enc b).length<=1000000):Ca E0 ajY [.d (LD (enc a)),.d (LD (enc b))] (.d (LD (enc (Nat.gcd a b))),none):=by
 have hl:=Q0 a b la lb;generalize Nat.gcd a b=g at*;refine Ca.body (o:=.ret) (st1:=(st0 [.u,.u,.d (LD (enc g)),.u,.u] [])) rfl (aO 183 f183:E0.fn _=_) rfl ?_ (by intro id h;cases h) ?_
 ·show Ex E0 (.seq adP.body.l (.seq (.block 0 (.loop gcB)) adP.body.r.r)) _ _;refine Ex.seq (st1:=EW a b .u) (Ex.of (n:=40) ?_) (Ex.seq hl.block (Ex.of (n:=40) ?_))
  ·unfold EW;simp[f183]
  ·unfold EW;simp[f183]
 ·simp[f183,LD]
abbrev aj1:Nat:=182
abbrev amY:bM:=f182
abbrev ad1:Nat:=109
abbrev aj2:bM:=f109
theorem Hq (n:Nat):CL E0 (n+20) aj1 [] []=some (.d (.s 1 [.v (.int .u32 1)]),none):=by
 rw[aB rfl (aO 182 f182:E0.fn _=_) rfl];simp[f182]
theorem Cq:LD (enc 1)=.s 1 [.v (.int .u32 1)]:=by rw[jQ ae ae];rfl
def vX (l:List Nat):Bool:=decide (trim l=l)
theorem Pb (n:Nat):vX (enc n)=true:=by simp[vX,JF]
theorem n_ {l:List Nat}(hl:cu l):vX l=true↔l=enc (val l):=by
 unfold vX;rw[decide_eq_true_iff,dm hl];exact⟨fun h=>h.symm,fun h=>h.symm⟩
theorem Aj (m:Nat)(l:List Nat)(hl:l.length<=1000000000):CL E0 (m+30) ZH [.d (LD l)] []=some (dB (vX l),none):=by
 rw[aB rfl (aO 180 f180:E0.fn _=_) rfl];rcases Xc0 l with h|⟨b,x,h⟩
 ·rw[h];have:vX []=true:=by simp[vX,trim]
  rw[this];simp[f180,LD,LL]
 ·rw[Q50]at h;rw[h]at hl ⊢;have hlen:(LL (b++[x])).length=b.length+1:=by simp[LL]
  have hget:(LL (b++[x]))[b.length]?=some (.v (.int .u32 (x:Int))):=by simp[LL]
  have hb:(((b.length:Int)+1)==0)=false:=by simp;omega
  have hw:ak .i64 (b.length:Int)=(b.length:Int):=wrap_i64 (by simp at hl;omega);have hok:vX (b++[x])=((x:Int) != 0):=by
   unfold vX
   by_cases hx:x=0
   ·subst hx;rw[uD];have h2:=r_ b;have h3:¬ trim b=b++[0]:=by
     intro e;rw[e]at h2;simp only[Qb0,Qf1,Qs1]at h2;omega
    simp[h3]
   ·rw[uC b x hx];simp[hx]
  rw[hok];simp only[LD];generalize LL (b++[x])=es at*;have Cc:=idx hget;simp[f180,hlen,hget,Cc,hb,hw]
def raw (s:Bool)(a b:List Nat):D:=.a [vB s,LD a,LD b]
def d_ (s:Bool)(a b:List Nat):Bool :=
 vX a&&vX b&&(if a=[] then !s&&decide (b=[]) else decide (b=[])||(decide (val b≠1)&&decide (Nat.gcd (val a) (val b)=1)))
theorem ZY {a:Nat}:(d9 a 1 != 0)=decide (a≠1):=by
 unfold d9
 by_cases h:a<1
 ·rw[if_pos h];simp;omega
 ·rw[if_neg h]
  by_cases h2:a=1
  ·simp[h2]
  ·simp[h2]
theorem ZZ {a:Nat}:(d9 a 1==0)=decide (a=1):=by
 unfold d9
 by_cases h:a<1
 ·rw[if_pos h];simp;omega
 ·rw[if_neg h]
  by_cases h2:a=1
  ·simp[h2]
  ·simp[h2]
theorem zw (s:Bool)(a b:List Nat)(la:a.length<=1000000)(lb:b.length<=1000000)(ha:cu a)(hb:cu b):Ca E0 ad1 [.d (raw s a b)] (dB (d_ s a b),none):=by
 have p1:=fun m=>Aj m a ae
 have p2:=fun m=>Aj m b ae
 have o1:=Hq;unfold d_
 by_cases hoa:vX a=true
 ·by_cases Ji:vX b=true
  ·rw[hoa]at p1 ⊢;rw[Ji]at p2 ⊢
   by_cases hna:a=[]
   ·subst hna;simp only[raw,LD,LL,Qc2]at p1 p2 ⊢
    by_cases hnb:b=[]
    ·subst hnb;refine Ca.bQ (n:=60) ?_;rw[aB rfl (k109:E0.fn _=_) rfl];simp only[Qc2]at p2 ⊢;cases s<;>simp[f109,p1]
    ·have hlen:((List.map (fun(x:Nat)=>D.v (Value.int IntKind.u32 (x:Int))) b).length==0)=false:=by simp[hnb]
     refine Ca.bQ (n:=60) ?_;rw[aB rfl (k109:E0.fn _=_) rfl];have FK:¬ (List.map (fun(x:Nat)=>D.v (Value.int IntKind.u32 (x:Int))) b)=[]:=by simp[hnb]
     generalize List.map (fun(x:Nat)=>D.v (Value.int IntKind.u32 (x:Int))) b=bs at*;cases s<;>simp[f109,p1,p2,hnb,hlen,FK]
   ·have hla:¬ (LL a)=[]:=by simp[LL,hna]
    by_cases hnb:b=[]
    ·subst hnb;refine Ca.bQ (n:=60) ?_;rw[aB rfl (k109:E0.fn _=_) rfl];simp only[raw,LD]at p1 p2 ⊢;generalize LL a=as' at*;simp only[LL,Qc2]at p2 ⊢;simp[f109,p1,p2,hna,hla]
    ·have hlb:¬ (LL b)=[]:=by simp[LL,hnb]
     have ea:=(n_ ha).1 hoa;have eb:=(n_ hb).1 Ji;have l1:=gI (n:=1) (k:=1) ae;have hg:(enc (Nat.gcd (val a) (val b))).length<=1000000:=by
      refine Qd1 (bL (m:=Nat.gcd (val a) (val b)) (n:=val b) (X1 ?_ (Xy0 _ _))) (by rw[<-eb];omega);rcases Qr1 (val b) with h|h
      ·rw[h]at eb;rw[dF]at eb;exact absurd eb hnb
      ·exact h
     obtain⟨Kq,_,c1,c2,c3⟩:=((zi b (enc 1) ae ae hb (aW _)).j ((zi (enc (Nat.gcd (val a) (val b))) (enc 1) ae ae (aW _) (aW _)).j ((UN (val a) (val b) (by rw[<-ea];omega) (by rw[<-eb];omega)).any))).at 0;generalize Kq=N at*;simp only[a_]at c1 c2;rw[<-ea,<-eb]at c3;rw[Cq]at c1 c2;have e1:=ZY (a:=val b);have e2:=ZZ (a:=Nat.gcd (val a) (val b));refine Ca.bQ (n:=N+60) ?_;rw[aB rfl (k109:E0.fn _=_) rfl];rw[if_neg hna];simp only[hnb,decide_false,Xg2,Qp1];rw[<-e1,<-e2];clear e1 e2 ea eb;generalize d9 (val b) 1=k1,d9 (Nat.gcd (val a) (val b)) 1=k2 at*;simp only[raw,LD]at p1 p2 c1 c2 c3 ⊢;generalize LL a=as',LL b=bs,LL (enc (Nat.gcd (val a) (val b)))=gs at*;cases hk1:(k1 != 0)
     ·simp[f109,p1,p2,hla,hlb,o1,c1,c2,c3,hk1]
     ·simp[f109,p1,p2,hla,hlb,o1,c1,c2,c3,hk1]
  ·simp only[X12]at Ji;rw[hoa]at p1 ⊢;rw[Ji]at p2 ⊢;refine Ca.bQ (n:=60) ?_;rw[aB rfl (k109:E0.fn _=_) rfl];simp only[raw,LD]at p1 p2 ⊢;generalize LL a=as',LL b=bs at*;simp[f109,p1,p2]
 ·simp only[X12]at hoa;rw[hoa]at p1 ⊢;refine Ca.bQ (n:=60) ?_;rw[aB rfl (k109:E0.fn _=_) rfl];simp only[raw,LD]at p1 p2 ⊢;generalize LL a=as',LL b=bs at*;simp[f109,p1,p2]
abbrev nOf:Nat:=185
abbrev fOf:bM:=f185
abbrev ad2:Nat:=230
abbrev aj3:bM:=f230
abbrev aj4:Nat:=187
abbrev am0:bM:=f187
def sz (n:Nat):Nat:=(enc n).length
theorem vG {n k:Nat}(h:n<4294967296 ^ k):sz n<=k:=gI h
theorem JG (n:Nat):n<4294967296 ^ sz n:=zo n
theorem qm {m n:Nat}(h:m<=n):sz m<=sz n:=bL h
theorem fF (a b:Nat):sz (a*b)<=sz a+sz b:=by
 refine vG ?_;rw[Qy2];have h1:=JG a;have h2:=JG b;exact Xd2 (Qz1 a (Nat.le_of_lt h2)) (Q62 h1 (Qs0 ae))
theorem MV (a b:Nat):sz (a+b)<=max (sz a) (sz b)+1:=by
 refine vG ?_;rw[Qn2];have h1:=Ql0 (JG a) (Qu1 (n:=4294967296) ae (Q21 (sz a) (sz b)));have h2:=Ql0 (JG b) (Qu1 (n:=4294967296) ae (Q12 (sz a) (sz b)));omega
theorem Cr:sz 1=1:=by unfold sz;rw[jQ ae ae];rfl
def fq (s:Bool)(n d:Nat):D:=.a [vB s,LD (enc n),LD (enc d)]
def qs (x:Rat):Bool:=decide (x.num<0)
def qn (x:Rat):List Nat:=enc x.num.natAbs
def qd (x:Rat):List Nat:=if x.den=1 then [] else enc x.den
def qD (x:Rat):D:=raw (qs x) (qn x) (qd x)
def fqR (x:Rat):D:=fq (qs x) x.num.natAbs x.den
def qz (x:Rat):Nat:=max (sz x.num.natAbs) (sz x.den)
theorem Hr (x:Rat):cu (qn x):=aW _
theorem Ht (x:Rat):cu (qd x):=by
 unfold qd;split
 ·intro y hy;cases hy
 ·exact aW _
theorem UO (x:Rat):(qn x).length<=qz x:=Q21 _ _
theorem UQ (x:Rat):(qd x).length<=qz x:=by
 unfold qd;split
 ·simp
 ·exact Q12 _ _
theorem uE (x:Rat):d_ (qs x) (qn x) (qd x)=true:=by
 have hd:=x.den_nz;have hr:Nat.gcd x.num.natAbs x.den=1:=x.reduced;have ok2:vX (qd x)=true:=by
  unfold qd;split
  ·simp[vX,trim]
  ·exact Pb _
 unfold d_;rw[show vX (qn x)=true from Pb _,ok2];simp only[Qp1]
 by_cases h0:qn x=[]
 ·rw[if_pos h0];have hz:x.num.natAbs=0:=eF.1 h0;have hz2:x.num=0:=Xv0.1 hz;rw[hz,Nat.gcd_zero_left]at hr;simp[qs,qd,hz2,hr]
 ·rw[if_neg h0];unfold qd;split
  ·simp
  ·rename_i h1;have e1:val (qn x)=x.num.natAbs:=a_ _;simp[a_,e1,hr,h1]
theorem Cs (x:Rat)(hx:qz x<=1000000):Ca E0 nOf [.d (qD x)] (.d (fqR x),none):=by
 obtain⟨N,hv⟩:=(zw (qs x) (qn x) (qd x) (Qd1 (UO x) hx) (Qd1 (UQ x) hx) (Hr x) (Ht x)).get;rw[uE]at hv;have o1:=Hq;have hn:enc x.num.natAbs=qn x:=rfl;refine Ca.bQ (n:=N+60) ?_;rw[aB rfl (aO 185 f185:E0.fn _=_) rfl];simp only[qD,fqR,fq,raw,hn];simp only[raw]at hv;generalize qs x=s at*
 by_cases hd:x.den=1
 ·have e:qd x=[]:=if_pos hd;rw[e]at hv ⊢;rw[hd,Cq];simp only[LD]at hv ⊢;generalize LL (qn x)=ns at*;simp only[LL,Qc2]at hv ⊢;simp[f185,hv,o1]
 ·have e:qd x=enc x.den:=if_neg hd;have FK:¬ LL (enc x.den)=[]:=by
   have:=x.den_nz;simp[LL,eF,this]
  rw[e]at hv ⊢;simp only[LD]at hv ⊢;generalize LL (qn x)=ns,LL (enc x.den)=ds at*;simp[f185,hv,FK]
theorem Ct (m:Nat)(l:List Nat)(h0:l≠[])(hl:l.length<=100000000):CL E0 (m+30) ad2 [.d (LD l)] []=some (.d (LD l),none):=by
 rw[aB rfl (aO 230 f230:E0.fn _=_) rfl];obtain⟨x,r,rfl⟩:∃ x r,l=x::r:=by cases l with|nil=>exact absurd rfl h0|cons x r=>exact⟨x,r,rfl⟩
 simp only[LD,LL,Qd2];have hlen:(List.map (fun(x:Nat)=>D.v (Value.int IntKind.u32 (x:Int))) r).length<=100000000:=by simp at hl ⊢;omega
 have hone:∀ y ∈ List.map (fun(x:Nat)=>D.v (Value.int IntKind.u32 (x:Int))) r,D.one y=true:=by
  intro y hy;obtain⟨z,_,rfl⟩:=Qg1.1 hy;rfl
 generalize List.map (fun(x:Nat)=>D.v (Value.int IntKind.u32 (x:Int))) r=es at*;have hm:(es.length+1)*4<=1099511627776:=ae;have hm2:(es.length+1)<=1099511627776:=ae;simp[f230,ai.view,most,hm,hm2]
def ve (s:Bool)(n:Nat):Int:=if s then -(n:Int) else n
def xn (s:Bool)(n d:Nat):Rat:=mkRat (ve s n) d
theorem vY (s:Bool)(n:Nat):(ve s n).natAbs=n:=by cases s<;>simp[ve]
theorem uF {s:Bool}{n d:Nat}(hd:0<d):(xn s n d).den=d / Nat.gcd n d:=by
 unfold xn;rw[Rat.den_mkRat,if_neg ae,vY,Xu2]
theorem Pf {s:Bool}{n d:Nat}(hd:0<d):(xn s n d).num=ve s (n / Nat.gcd n d):=by
 unfold xn;rw[Rat.num_mkRat,if_neg ae,vY,Xu2];have hg:Nat.gcd n d ∣ n:=Nat.gcd_dvd_left n d;cases s
 ·simp[ve]
 ·simp only[ve,if_true];rw[Int.neg_ediv_of_dvd (by exact_mod_cast hg)];simp
theorem uG {s:Bool}{n d:Nat}(hd:0<d):(xn s n d).num.natAbs=n / Nat.gcd n d:=by rw[Pf hd,vY]
theorem Cu {s:Bool}{n d:Nat}(hd:0<d):qs (xn s n d)=if n=0 then false else s:=by
 have hg:0<Nat.gcd n d:=Xv1 n hd;unfold qs;rw[Pf hd]
 by_cases h:n=0
 ·subst h;cases s<;>simp[ve]
 ·rw[if_neg h];have:=Xz0 (X1 ae (Nat.gcd_dvd_left n d)) hg;cases s
  ·simp[ve];omega
  ·simp only[ve,if_true];simp;omega
theorem Cv {s:Bool}{n d:Nat}(hd:0<d):qz (xn s n d)<=max (sz n) (sz d):=by
 unfold qz;rw[uG hd,uF hd];have h1:=qm (Xp0 n (Nat.gcd n d));have h2:=qm (Xp0 d (Nat.gcd n d));omega
theorem Hu {s:Bool}{n d:Nat}(ln:sz n<=1000000)(ld:sz d<=1000000)(hd0:0<d):Ca E0 aj4 [.d (fq s n d)] (.d (qD (xn s n d)),none):=by
 have o1:=Hq;unfold qD qn qd;rw[Cu hd0,uG hd0,uF hd0];unfold sz at ln ld;rcases Qr1 n with rfl|hn0
 ·have e2:d / Nat.gcd 0 d=1:=by rw[Nat.gcd_zero_left];exact Nat.div_self hd0
  rw[e2];refine Ca.bQ (n:=60) ?_;rw[aB rfl (k187:E0.fn _=_) rfl];simp only[fq,raw,Nat.zero_div,dF,if_true,LD,LL,Qc2];generalize List.map (fun(x:Nat)=>D.v (Value.int IntKind.u32 (x:Int))) (enc d)=ds at*;simp[f187]
 ·rw[if_neg ae];have hg:0<Nat.gcd n d:=Xv1 n hd0;have lg:(enc (Nat.gcd n d)).length<=1000000:=Qd1 (bL (X1 hd0 (Xy0 n d))) ld;obtain⟨n1,c1⟩:=(UN n d ln ld).any;have l1:=gI (n:=1) (k:=1) ae;obtain⟨n2,c2⟩:=(zi (enc (Nat.gcd n d)) (enc 1) ae ae (aW _) (aW _)).any;obtain⟨n3,c3⟩:=(Hl n (Nat.gcd n d) hg ln lg).any;obtain⟨n4,c4⟩:=(Hl d (Nat.gcd n d) hg ld lg).any;have ldl:(enc (d / Nat.gcd n d)).length<=1000000:=Qd1 (bL (Xp0 _ _)) ld;obtain⟨n5,c5⟩:=(zi (enc (d / Nat.gcd n d)) (enc 1) ae ae (aW _) (aW _)).any;replace c1:=c1 (n1+n2+n3+n4+n5) ae;replace c2:=c2 (n1+n2+n3+n4+n5) ae;replace c3:=c3 (n1+n2+n3+n4+n5) ae;replace c4:=c4 (n1+n2+n3+n4+n5) ae;replace c5:=c5 (n1+n2+n3+n4+n5) ae;generalize n1+n2+n3+n4+n5=N at*;simp only[a_]at c2 c5;rw[Cq]at c2 c5;have k1:=fun m=>Ct m (enc n) (by rw[Ne,eF];omega) ae
  have k2:=fun m=>Ct m (enc d) (by rw[Ne,eF];omega) ae
  have hln:¬ LL (enc n)=[]:=by
   have:¬ n=0:=ae;simp[LL,eF,this]
  refine Ca.bQ (n:=N+80) ?_;rw[aB rfl (k187:E0.fn _=_) rfl]
  by_cases h1:Nat.gcd n d=1
  ·have e1:d9 1 1=0:=by simp[d9]
   rw[h1]at c1 c2 c5 ⊢;rw[Xm1]at c5;rw[Xm1,Xm1];rw[Cq]at c1 c2;rw[e1]at c2
   by_cases hd1:d=1
   ·have e2:d9 d 1=0:=by rw[hd1];simp[d9]
    rw[e2]at c5;rw[if_pos hd1];simp only[fq,raw,LD]at c1 c2 c5 k1 k2 ⊢;generalize LL (enc n)=ns,LL (enc d)=ds at*;simp only[LL,Qc2];simp[f187,o1,c1,c2,c5,k1,k2,hln]
   ·have e2:d9 d 1=1:=by unfold d9;rw[if_neg ae,if_neg ae]
    rw[e2]at c5;rw[if_neg hd1];simp only[fq,raw,LD]at c1 c2 c5 k1 k2 ⊢;generalize LL (enc n)=ns,LL (enc d)=ds at*;simp[f187,o1,c1,c2,c5,k1,k2,hln]
  ·have e1:d9 (Nat.gcd n d) 1=1:=by unfold d9;rw[if_neg ae,if_neg h1]
   rw[e1]at c2;have hdv:Nat.gcd n d ∣ d:=Xy0 n d;generalize Nat.gcd n d=g at*
   by_cases hd1:d / g=1
   ·have e2:d9 (d / g) 1=0:=by rw[hd1];simp[d9]
    rw[e2]at c5;rw[if_pos hd1];generalize d / g=dd,n / g=nn,n % g=m1,d % g=m2 at*;simp only[fq,raw,LD]at c1 c2 c3 c4 c5 k1 k2 ⊢;generalize LL (enc n)=ns,LL (enc d)=ds,LL (enc g)=gs at*;generalize LL (enc nn)=q1,LL (enc dd)=q2,LL (enc m1)=x1,LL (enc m2)=x2 at*;simp only[LL,Qc2];simp[f187,o1,c1,c2,c3,c4,c5,k1,k2,hln]
   ·have e2:d9 (d / g) 1=1:=by
     have:0<d / g:=Xz0 (X1 hd0 hdv) hg;unfold d9;rw[if_neg ae,if_neg hd1]
    rw[e2]at c5;rw[if_neg hd1];generalize d / g=dd,n / g=nn,n % g=m1,d % g=m2 at*;simp only[fq,raw,LD]at c1 c2 c3 c4 c5 k1 k2 ⊢;generalize LL (enc n)=ns,LL (enc d)=ds,LL (enc g)=gs at*;generalize LL (enc nn)=q1,LL (enc dd)=q2,LL (enc m1)=x1,LL (enc m2)=x2 at*;simp[f187,o1,c1,c2,c3,c4,c5,k1,k2,hln]
abbrev ad3:Nat:=186
abbrev aj5:bM:=f186
abbrev ahf:Nat:=232
abbrev ami:bM:=f232
abbrev aj6:Nat:=114
abbrev am1:bM:=f114
abbrev aj7:Nat:=191
abbrev am2:bM:=f191
theorem zx {a b:Nat}(ha:sz a<=1000000)(hb:sz b<=1000000):Ca E0 UC [.d (LD (enc a)),.d (LD (enc b))] (.d (LD (enc (a*b))),none):=by
 unfold sz at ha hb;have:=Jy (enc a) (enc b) ae ae (aW _) (aW _);simpa only[a_] using this
theorem UR {a b:Nat}(ha:sz a<=1000000)(hb:sz b<=1000000):Ca E0 acG [.d (LD (enc a)),.d (LD (enc b))] (.d (LD (enc (a+b))),none):=by
 unfold sz at ha hb;have:=ZN (enc a) (enc b) ae ae (aW _) (aW _);simpa only[a_] using this
theorem FL {a b:Nat}(ha:sz a<=1000000)(hb:b<=a):Ca E0 Ux [.d (LD (enc a)),.d (LD (enc b))] (.d (LD (enc (a-b))),none):=by
 unfold sz at ha;have:=Cf (enc a) (enc b) ae (bL hb) (aW _) (aW _) (by simpa only[a_] using hb);simpa only[a_] using this
theorem Z0 {a b:Nat}(ha:sz a<=1000000)(hb:sz b<=1000000):Ca E0 adJ [.d (LD (enc a)),.d (LD (enc b))] (dI (d9 a b),none):=by
 unfold sz at ha hb;have:=zi (enc a) (enc b) ae ae (aW _) (aW _);simpa only[a_] using this
theorem Z4 (s:Bool)(n d:Nat):Ca E0 ahf [.d (fq s n d)] (.d (fq (!s) n d),none):=by
 refine Ca.bQ (n:=60) ?_;rw[aB rfl (aO 232 f232:E0.fn _=_) rfl];simp only[fq,LD];generalize LL (enc n)=ns;generalize LL (enc d)=ds;simp[f232]
def qw (s1:Bool)(a:Nat)(s2:Bool)(b:Nat):Bool:=if s1=s2 then s1 else if b<=a then s1 else s2
def oM (s1:Bool)(a:Nat)(s2:Bool)(b:Nat):Nat:=if s1=s2 then a+b else if b<=a then a-b else b-a
theorem xw {s1 s2:Bool}{a b:Nat}:sz (oM s1 a s2 b)<=max (sz a) (sz b)+1:=by
 unfold oM;split
 ·exact MV a b
 ·split
  ·have:=qm (Nat.sub_le a b);omega
  ·have:=qm (Nat.sub_le b a);omega
theorem Pg (s1 s2:Bool)(a b:Nat):ve (qw s1 a s2 b) (oM s1 a s2 b)=ve s1 a+ve s2 b:=by
 unfold qw oM
 by_cases h:s1=s2
 ·subst h;simp only[if_true];cases s1<;>simp[ve]<;>omega
 ·rw[if_neg h,if_neg h]
  by_cases hab:b<=a
  ·rw[if_pos hab,if_pos hab];cases s1<;>cases s2<;>simp_all[ve]<;>omega
  ·rw[if_neg hab,if_neg hab];cases s1<;>cases s2<;>simp_all[ve]<;>omega
theorem JH (s1 s2:Bool){n1 d1 n2 d2:Nat}(h1:sz n1<=200000)(h2:sz d1<=200000)(h3:sz n2<=200000)(h4:sz d2<=200000) :
  Ca E0 ad3 [.d (fq s1 n1 d1),.d (fq s2 n2 d2)] (.d (fq (qw s1 (n1*d2) s2 (n2*d1)) (oM s1 (n1*d2) s2 (n2*d1)) (d1*d2)),none):=by
 have b1:=fF n1 d2;have b2:=fF n2 d1;obtain⟨k1,t1⟩:=(zx (a:=n1) (b:=d2) ae ae).any;obtain⟨k2,t2⟩:=(zx (a:=n2) (b:=d1) ae ae).any;obtain⟨k3,t3⟩:=(zx (a:=d1) (b:=d2) ae ae).any;generalize n1*d2=a,n2*d1=b,d1*d2=d at*;obtain⟨k4,t4⟩:=(UR (a:=a) (b:=b) ae ae).any;obtain⟨k5,t5⟩:=(Z0 (a:=a) (b:=b) ae ae).any
 by_cases hs:s1=s2
 ·subst hs;replace t1:=t1 (k1+k2+k3+k4) ae;replace t2:=t2 (k1+k2+k3+k4) ae;replace t3:=t3 (k1+k2+k3+k4) ae;replace t4:=t4 (k1+k2+k3+k4) ae;generalize k1+k2+k3+k4=N at*;refine Ca.bQ (n:=N+80) ?_;rw[aB rfl (k186:E0.fn _=_) rfl];simp only[fq,qw,oM,if_true,LD]at*;generalize LL (enc n1)=x1,LL (enc n2)=x2,LL (enc d1)=x3,LL (enc d2)=x4,LL (enc (a+b))=x5,LL (enc a)=x6,LL (enc b)=x7 at*;generalize LL (enc d)=x8 at*;simp[f186,t1,t2,t3,t4]
 ·have hbq:(s1==s2)=false:=by simpa using hs
  by_cases hab:b<=a
  ·obtain⟨k6,t6⟩:=(FL (a:=a) (b:=b) ae hab).any;replace t1:=t1 (k1+k2+k3+k5+k6) ae;replace t2:=t2 (k1+k2+k3+k5+k6) ae;replace t3:=t3 (k1+k2+k3+k5+k6) ae;replace t5:=t5 (k1+k2+k3+k5+k6) ae;replace t6:=t6 (k1+k2+k3+k5+k6) ae;generalize k1+k2+k3+k5+k6=N at*;have hc:(0:Int)<=d9 a b:=by unfold d9;rw[if_neg ae];split<;>omega
   refine Ca.bQ (n:=N+80) ?_;rw[aB rfl (k186:E0.fn _=_) rfl];simp only[fq,qw,oM,if_neg hs,if_pos hab,LD]at*;generalize d9 a b=cc,LL (enc n1)=x1,LL (enc n2)=x2,LL (enc d1)=x3,LL (enc d2)=x4,LL (enc (a-b))=x5,LL (enc a)=x6,LL (enc b)=x7 at*;generalize LL (enc d)=x8 at*;simp[f186,t1,t2,t3,t5,t6,hbq,hc]
  ·obtain⟨k6,t6⟩:=(FL (a:=b) (b:=a) ae ae).any;replace t1:=t1 (k1+k2+k3+k5+k6) ae;replace t2:=t2 (k1+k2+k3+k5+k6) ae;replace t3:=t3 (k1+k2+k3+k5+k6) ae;replace t5:=t5 (k1+k2+k3+k5+k6) ae;replace t6:=t6 (k1+k2+k3+k5+k6) ae;generalize k1+k2+k3+k5+k6=N at*;have hc:d9 a b=-1:=by unfold d9;rw[if_pos ae]
   rw[hc]at t5;refine Ca.bQ (n:=N+80) ?_;rw[aB rfl (k186:E0.fn _=_) rfl];simp only[fq,qw,oM,if_neg hs,if_neg hab,LD]at*;generalize LL (enc n1)=x1,LL (enc n2)=x2,LL (enc d1)=x3,LL (enc d2)=x4,LL (enc (b-a))=x5,LL (enc a)=x6,LL (enc b)=x7 at*;generalize LL (enc d)=x8 at*;simp[f186,t1,t2,t3,t5,t6,hbq]
theorem om (x:Rat):ve (qs x) x.num.natAbs=x.num:=by
 unfold ve qs
 by_cases h:x.num<0
 ·rw[if_pos (by simpa using h)];omega
 ·rw[if_neg (by simpa using h)];omega
theorem Ph (s1 s2:Bool)(a b:Nat):ve (s1 != s2) (a*b)=ve s1 a*ve s2 b:=by
 cases s1<;>cases s2<;>simp[ve,Int.neg_mul,Int.mul_neg]
theorem den_pos (x:Rat):0<x.den:=Nat.pos_of_ne_zero x.den_nz
theorem Pk (x y:Rat):xn (qs x != qs y) (x.num.natAbs*y.num.natAbs) (x.den*y.den)=x*y:=by
 unfold xn;rw[Ph,om,om,Rat.mul_def']
theorem Hw (x y:Rat):xn (qw (qs x) (x.num.natAbs*y.den) (qs y) (y.num.natAbs*x.den)) (oM (qs x) (x.num.natAbs*y.den) (qs y) (y.num.natAbs*x.den)) (x.den*y.den)=x+y:=by
 unfold xn;rw[Pg,Rat.add_def']
 congr 1
 have h:=fun(s:Bool) (a b:Nat)=>show ve s (a*b)=ve s a*(b:Int) by cases s<;>simp[ve,Int.neg_mul]
 rw[h,h,om,om]
theorem Pm (x y:Rat):xn (qw (qs x) (x.num.natAbs*y.den) (!qs y) (y.num.natAbs*x.den)) (oM (qs x) (x.num.natAbs*y.den) (!qs y) (y.num.natAbs*x.den)) (x.den*y.den)=x-y:=by
 unfold xn;rw[Pg,Rat.sub_def']
 congr 1
 have h:=fun(s:Bool) (a b:Nat)=>show ve s (a*b)=ve s a*(b:Int) by cases s<;>simp[ve,Int.neg_mul]
 have h2:=fun(s:Bool) (a:Nat)=>show ve (!s) a=- ve s a by cases s<;>simp[ve]
 rw[h,h,h2,om,om,Int.neg_mul];omega
theorem Cw (x y:Rat):qz (x*y)<=qz x+qz y:=by
 rw[<-Pk];refine Qd1 (Cv (Xg0 (den_pos x) (den_pos y))) ?_;have h1:=fF x.num.natAbs y.num.natAbs;have h2:=fF x.den y.den;unfold qz;omega
theorem qy (x y:Rat):qz (x+y)<=qz x+qz y+1:=by
 rw[<-Hw];refine Qd1 (Cv (Xg0 (den_pos x) (den_pos y))) ?_;have h1:=fF x.num.natAbs y.den;have h2:=fF y.num.natAbs x.den;have h3:=fF x.den y.den;have h4:=@xw (qs x) (qs y) (x.num.natAbs*y.den) (y.num.natAbs*x.den);unfold qz;omega
theorem UT (x y:Rat):qz (x-y)<=qz x+qz y+1:=by
 rw[<-Pm];refine Qd1 (Cv (Xg0 (den_pos x) (den_pos y))) ?_;have h1:=fF x.num.natAbs y.den;have h2:=fF y.num.natAbs x.den;have h3:=fF x.den y.den;have h4:=@xw (qs x) (!qs y) (x.num.natAbs*y.den) (y.num.natAbs*x.den);unfold qz;omega
theorem Hy (x y:Rat)(hx:qz x<=100000)(hy:qz y<=100000):Ca E0 aj6 [.d (qD x),.d (qD y)] (.d (qD (x+y)),none):=by
 obtain⟨k1,t1⟩:=(Cs x ae).any;obtain⟨k2,t2⟩:=(Cs y ae).any;have hx1:sz x.num.natAbs<=100000:=Qd1 (Q21 _ _) hx;have hx2:sz x.den<=100000:=Qd1 (Q12 _ _) hx;have hy1:sz y.num.natAbs<=100000:=Qd1 (Q21 _ _) hy;have hy2:sz y.den<=100000:=Qd1 (Q12 _ _) hy;have b1:=fF x.num.natAbs y.den;have b2:=fF y.num.natAbs x.den;have b3:=fF x.den y.den;have b4:=@xw (qs x) (qs y) (x.num.natAbs*y.den) (y.num.natAbs*x.den);obtain⟨k3,t3⟩:=(JH (qs x) (qs y) (n1:=x.num.natAbs) (d1:=x.den) (n2:=y.num.natAbs) (d2:=y.den) ae ae ae ae).any;obtain⟨k5,t5⟩:=(Hu (s:=qw (qs x) (x.num.natAbs*y.den) (qs y) (y.num.natAbs*x.den)) (n:=oM (qs x) (x.num.natAbs*y.den) (qs y) (y.num.natAbs*x.den)) (d:=x.den*y.den) ae ae (Xg0 (den_pos x) (den_pos y))).any;rw[Hw]at t5;replace t1:=t1 (k1+k2+k3+k5) ae;replace t2:=t2 (k1+k2+k3+k5) ae;replace t3:=t3 (k1+k2+k3+k5) ae;replace t5:=t5 (k1+k2+k3+k5) ae;generalize k1+k2+k3+k5=N,oM (qs x) (x.num.natAbs*y.den) (qs y) (y.num.natAbs*x.den)=n,qw (qs x) (x.num.natAbs*y.den) (qs y) (y.num.natAbs*x.den)=ss,x.den*y.den=d at*;refine Ca.bQ (n:=N+80) ?_;rw[aB rfl (aO 114 f114:E0.fn _=_) rfl];simp only[fqR,fq,qD,raw,LD]at*;generalize qs x=s1,qs y=s2,LL (enc x.num.natAbs)=x1,LL (enc y.num.natAbs)=x2,LL (enc x.den)=x3,LL (enc y.den)=x4,LL (qn x)=z1,LL (qn y)=z2,LL (qd x)=z3,LL (qd y)=z4,LL (enc n)=x7,LL (enc d)=x8,LL (qn (x+y))=x9,LL (qd (x+y))=y1,qs (x+y)=sg at*;simp[f114,t1,t2,t3,t5]
theorem Z5 (x y:Rat)(hx:qz x<=100000)(hy:qz y<=100000):Ca E0 aj7 [.d (qD x),.d (qD y)] (.d (qD (x-y)),none):=by
 obtain⟨k1,t1⟩:=(Cs x ae).any;obtain⟨k2,t2⟩:=(Cs y ae).any;have hx1:sz x.num.natAbs<=100000:=Qd1 (Q21 _ _) hx;have hx2:sz x.den<=100000:=Qd1 (Q12 _ _) hx;have hy1:sz y.num.natAbs<=100000:=Qd1 (Q21 _ _) hy;have hy2:sz y.den<=100000:=Qd1 (Q12 _ _) hy;have b1:=fF x.num.natAbs y.den;have b2:=fF y.num.natAbs x.den;have b3:=fF x.den y.den;have b4:=@xw (qs x) (!qs y) (x.num.natAbs*y.den) (y.num.natAbs*x.den);obtain⟨k3,t3⟩:=(JH (qs x) (!qs y) (n1:=x.num.natAbs) (d1:=x.den) (n2:=y.num.natAbs) (d2:=y.den) ae ae ae ae).any;obtain⟨k4,t4⟩:=(Z4 (qs y) y.num.natAbs y.den).any;obtain⟨k5,t5⟩:=(Hu (s:=qw (qs x) (x.num.natAbs*y.den) (!qs y) (y.num.natAbs*x.den)) (n:=oM (qs x) (x.num.natAbs*y.den) (!qs y) (y.num.natAbs*x.den)) (d:=x.den*y.den) ae ae (Xg0 (den_pos x) (den_pos y))).any;rw[Pm]at t5;replace t1:=t1 (k1+k2+k3+k4+k5) ae;replace t2:=t2 (k1+k2+k3+k4+k5) ae;replace t3:=t3 (k1+k2+k3+k4+k5) ae;replace t4:=t4 (k1+k2+k3+k4+k5) ae;replace t5:=t5 (k1+k2+k3+k4+k5) ae;generalize k1+k2+k3+k4+k5=N,oM (qs x) (x.num.natAbs*y.den) (!qs y) (y.num.natAbs*x.den)=n,qw (qs x) (x.num.natAbs*y.den) (!qs y) (y.num.natAbs*x.den)=ss,x.den*y.den=d at*;refine Ca.bQ (n:=N+80) ?_;rw[aB rfl (aO 191 f191:E0.fn _=_) rfl];simp only[fqR,fq,qD,raw,LD]at*;generalize (!qs y)=s3,qs x=s1 at*;generalize qs y=s2,LL (enc x.num.natAbs)=x1,LL (enc y.num.natAbs)=x2,LL (enc x.den)=x3,LL (enc y.den)=x4,LL (qn x)=z1,LL (qn y)=z2,LL (qd x)=z3,LL (qd y)=z4,LL (enc n)=x7,LL (enc d)=x8,LL (qn (x-y))=x9,LL (qd (x-y))=y1,qs (x-y)=sg at*;simp[f191,t1,t2,t3,t4,t5]
theorem xx (x:Rat)(hx:qz x<=1000000):Ca E0 134 [.d (qD x)] (dI x.num.sign,none):=by
 obtain⟨N,t⟩:=(Cs x hx).get;refine Ca.bQ (n:=N+60) ?_;rw[aB rfl (aO 134 f134:E0.fn _=_) rfl];simp only[fqR,fq,qD,raw,LD]at*;have hq:enc x.num.natAbs=qn x:=rfl;rw[hq]at t;have hs:(LL (qn x)=[]/\x.num.sign=0)\/(LL (qn x)≠[]/\qs x=true/\x.num.sign=-1)\/(LL (qn x)≠[]/\qs x=false/\x.num.sign=1):=by
  have hnil:LL (qn x)=[]↔x.num.natAbs=0:=by simp only[LL,Xs2];exact eF
  rw[Ne,hnil];rcases Xa1 x.num 0 with h|h|h
  ·exact .inr (.inl ⟨ae,decide_eq_true h,Q20 h⟩)
  ·exact .inl ⟨ae,by rw[h];rfl⟩
  ·exact .inr (.inr ⟨ae,decide_eq_false ae,Xa0 h⟩)
 generalize LL (qn x)=z1,LL (qd x)=z3,LL (enc x.den)=x3,qs x=s at*;rcases hs with ⟨a,b⟩|⟨a,b,c⟩|⟨a,b,c⟩
 ·rw[b];subst a;simp[f134,t]
 ·rw[c];subst b;simp[f134,t,a]
 ·rw[c];subst b;simp[f134,t,a]
theorem Ak (x y:Rat)(hx:qz x<=100000)(hy:qz y<=100000):Ca E0 135 [.d (qD x),.d (qD y)] (dI (x-y).num.sign,none):=by
 obtain⟨k1,t1⟩:=(Z5 x y hx hy).any;have:=UT x y;obtain⟨k2,t2⟩:=(xx (x-y) ae).any;replace t1:=t1 (k1+k2) ae;replace t2:=t2 (k1+k2) ae;generalize k1+k2=N at*;refine Ca.bQ (n:=N+80) ?_;rw[aB rfl (aO 135 f135:E0.fn _=_) rfl];generalize (x-y).num.sign=res at*;simp only[qD,raw,LD]at*;generalize LL (qn x)=z1,LL (qn y)=z2,LL (qd x)=z3,LL (qd y)=z4,LL (qn (x-y))=x9,LL (qd (x-y))=y1 at*;simp[f135,t1,t2]
theorem JI (x:Rat):xn (qs x) x.num.natAbs x.den=x:=by
 unfold xn;rw[om,Rat.mkRat_self]
theorem Z6 (x y:Rat)(hy:y≠0):xn (qs x != qs y) (x.num.natAbs*y.den) (x.den*y.num.natAbs)=x / y:=by
 have hyn:y.num≠0:=fun h=>hy (Rat.num_eq_zero.1 h)
 have e1:ve (qs x != qs y) (x.num.natAbs*y.den)=x.num*(y.den*y.num.sign):=by
  have h:=Ph (qs x) (qs y) x.num.natAbs y.den;rw[h,om]
  congr 1
  rcases Xa1 y.num 0 with h|h|h
  ·rw[show qs y=true from decide_eq_true h,Q20 h];simp[ve]
  ·exact absurd h hyn
  ·rw[show qs y=false from decide_eq_false ae,Xa0 h];simp[ve]
 have e2:((x.den*y.num.natAbs:Nat):Int)=x.den*(y.num*y.num.sign):=by
  rw[Int.mul_sign_self];simp
 have hs:((y.num.sign:Int):Rat)≠0:=by
  intro e;have:y.num.sign=0:=by exact_mod_cast e
  exact hyn (Xb2.1 this)
 have hxd:((x.den:Int):Rat)≠0:=by have:=x.den_nz;exact_mod_cast this
 have hyd:((y.den:Int):Rat)≠0:=by have:=y.den_nz;exact_mod_cast this
 have am3:((y.num:Int):Rat)≠0:=by exact_mod_cast hyn
 have hx:x=(x.num:Rat) / ((x.den:Int):Rat):=by
  conv=>lhs;rw[<-Rat.mkRat_self x,Rat.mkRat_eq_div]
  rfl
 have hy':y=(y.num:Rat) / ((y.den:Int):Rat):=by
  conv=>lhs;rw[<-Rat.mkRat_self y,Rat.mkRat_eq_div]
  rfl
 unfold xn;rw[Rat.mkRat_eq_div,e1];have e3:(((x.den*y.num.natAbs:Nat)):Rat)=((x.den*(y.num*y.num.sign):Int):Rat):=by rw[<-e2];rfl
 rw[e3];simp only[Rat.intCast_mul]
 conv=>rhs;rw[hx,hy']
 generalize ((y.num.sign:Int):Rat)=a,((x.den:Int):Rat)=b,((y.den:Int):Rat)=c,((y.num:Int):Rat)=d,((x.num:Int):Rat)=e at*;grind
theorem ad4 (x:Rat):qz (-x)=qz x:=by simp[qz]
theorem Pn {n:Nat}(h:n<18446744073709551616):trim [n % 4294967296,n / 4294967296]=enc n:=by
 rw[dm (by intro y hy;simp at hy;omega)]
 congr 1
 simp[val];omega
theorem JJ (v:Int)(hv:-9223372036854775808<=v/\v<9223372036854775808):Ca E0 227 [dI v] (.d (.t [vB (decide (v<0)),LD (enc v.natAbs)]),none):=by
 obtain⟨n0,hc⟩:=(iP [v.natAbs % 4294967296,v.natAbs / 4294967296] aC).get;rw[Pn ae]at hc;have hn:v.natAbs<18446744073709551616:=ae;refine Ca.bQ (n:=n0+60) ?_;rw[aB rfl (aO 227 f227:E0.fn _=_) rfl];have w2:ak .u32 (v.natAbs:Int)=((v.natAbs % 4294967296:Nat):Int):=by rw[dQ];omega
 have w3:Int.fdiv (v.natAbs:Int) 4294967296=((v.natAbs / 4294967296:Nat):Int):=by
  rw[Qn0 _ ae];omega
 have w4:ak .u32 ((v.natAbs / 4294967296:Nat):Int)=((v.natAbs / 4294967296:Nat):Int):=wrap_u32 ae;have hl:(LL (enc v.natAbs))=LL (enc v.natAbs):=rfl;simp only[LD,LL,Qd2,Qc2]at hc ⊢;generalize List.map (fun(x:Nat)=>D.v (Value.int IntKind.u32 (x:Int))) (enc v.natAbs)=res at*
 by_cases h:v<0
 ·have w1:ak .u64 v=v+18446744073709551616:=by rw[gH];omega
  have w5:IntKind.wrap .u64 (-(v+18446744073709551616))=(v.natAbs:Int):=by rw[<-dh,gH];omega
  have hd:decide (v<0)=true:=decide_eq_true h;rw[hd];generalize v.natAbs / 4294967296=hi,v.natAbs % 4294967296=lo at*;generalize v.natAbs=va at*;simp[IntKind.bits,f227,o8,h,w1,w2,w3,w4,w5,hc]
 ·have w1:ak .u64 v=(v.natAbs:Int):=by rw[gH];omega
  have hd:decide (v<0)=false:=decide_eq_false h;rw[hd];generalize v.natAbs / 4294967296=hi,v.natAbs % 4294967296=lo at*;generalize v.natAbs=va at*;simp[IntKind.bits,f227,o8,h,w1,w2,w3,w4,hc]
def su (a b:Int):Rat:=xn (decide (a<0) != decide (b<0)) a.natAbs b.natAbs
theorem Hz {v:Int}(hv:-9223372036854775808<=v/\v<9223372036854775808):sz v.natAbs<=2:=vG (k:=2) (by
 have:(4294967296:Nat) ^ 2=18446744073709551616:=by rfl
 omega)
theorem Z7 (a b:Int)(ha:-9223372036854775808<=a/\a<9223372036854775808)(hb:-9223372036854775808<=b/\b<9223372036854775808)(h0:b≠0) :
  Ca E0 184 [dI a,dI b] (.d (.t [qD (su a b),vI 0]),none):=by
 have l1:=Hz ha;have l2:=Hz hb;obtain⟨Kq,_,t1,t2,t3⟩:=((JJ a ha).j ((JJ b hb).j ((Hu (s:=decide (a<0) != decide (b<0)) (n:=a.natAbs) (d:=b.natAbs) ae ae ae).any))).at 0;have e:xn (decide (a<0) != decide (b<0)) a.natAbs b.natAbs=su a b:=rfl;rw[e]at t3;generalize Kq=N at*;refine Ca.bQ (n:=N+80) ?_;rw[aB rfl (aO 184 f184:E0.fn _=_) rfl];have hb0:(b==0)=false:=by simpa using h0
 simp only[fq,qD,raw,LD]at*;generalize LL (qn (su a b))=x9,LL (qd (su a b))=y1,qs (su a b)=sg,LL (enc a.natAbs)=x1,LL (enc b.natAbs)=x2,decide (a<0)=s1,decide (b<0)=s2 at*;simp only[bne]at t3;simp[f184,o8,t1,t2,t3,hb0]
theorem UU (a b:Int)(h0:b≠0):su a b=(a:Rat) / (b:Rat):=by
 have h:∀ v:Int,qs ((v:Int):Rat)=decide (v<0)/\((v:Int):Rat).num=v/\((v:Int):Rat).den=1:=fun v=>⟨by unfold qs;rfl,rfl,rfl⟩
 have hb:((b:Int):Rat)≠0:=by exact_mod_cast h0
 rw[<-Z6 _ _ hb,(h a).1,(h b).1,(h a).2.1,(h a).2.2,(h b).2.1,(h b).2.2];simp[su]
end Fi.S
