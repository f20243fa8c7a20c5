import Derived.Test.YtkekcmgkpdkieaaGreatDoorCA
set_option linter.unusedVariables false
set_option linter.unusedSimpArgs false
noncomputable section
namespace Fi.S
open Go Fi
set_option maxHeartbeats 8000000
theorem Ay {n k:Nat}(h1:4294967296 ^ k<=n)(h2:n<4294967296 ^ (k+1)):(enc n).length=k+1:=by
 have a:=gp h2;rcases Qg1 k (enc n).length with h|h
 ·omega
 ·exfalso;have h3:=nN (aS n);rw[aV]at h3;have h4:=Qt2 (n:=4294967296) omK h;omega
theorem Bp {u:Nat}(h:0<u):enc u=u % 4294967296::enc (u / 4294967296):=by
 rw[enc,if_neg omK]
theorem wB (n:Nat):∀ (u:Nat),bF (enc u) n=u / 4294967296 ^ n % 4294967296:=by
 induction n with
 | zero =>
  intro u;rcases Qt0 u with rfl|h
  ·simp[dx,bF]
  ·rw[Bp h];simp[bF]
 | succ n ih =>
  intro u;rcases Qt0 u with rfl|h
  ·simp[dx,bF]
  ·have:bF (enc u) (n+1)=bF (enc (u / 4294967296)) n:=by rw[Bp h];simp[bF]
   rw[this,ih,Qy2,Ql1,Qj2]
theorem X8 (k:Nat):∀ {y:Nat},4294967296 ^ k<=y->y<4294967296 ^ (k+1)->∃ lo,enc y=lo++[y / 4294967296 ^ k]/\lo.length=k:=by
 induction k with
 | zero =>
  intro y h1 h2;simp at h1 h2;refine⟨[],?_,rfl⟩;rw[jr omK omK];simp
 | succ k ih =>
  intro y h1 h2;have hp:0<4294967296 ^ (k+1):=Qq2 omK;obtain⟨lo,e,hl⟩:=ih (y:=y / 4294967296) (by rw[Xz2 omK,<-Ql1];exact h1) (by rw[Qu1 omK,<-Ql1];exact h2);refine⟨y % 4294967296::lo,?_,by simp[hl]⟩;rw[Bp omK,e,Qy2,Ql1,Qj2 (4294967296 ^ k)];rfl
theorem IK {x:Nat}(h:0<x):2 ^ (gq x-1)<=x/\x<2 ^ gq x:=by
 unfold gq;rw[if_neg omK];exact⟨Nat.log2_self_le omK,Nat.lt_log2_self⟩
theorem Td {y k:Nat}(h1:4294967296 ^ k<=y)(h2:y<4294967296 ^ (k+1)) :
  y*2 ^ (32-gq (y / 4294967296 ^ k))<4294967296 ^ (k+1)/\4294967296 ^ k<=y*2 ^ (32-gq (y / 4294967296 ^ k)):=by
 have hp:0<4294967296 ^ k:=Qq2 omK;have ht0:0<y / 4294967296 ^ k:=Xw0 h1 hp;have ht1:y / 4294967296 ^ k<4294967296:=by rw[Qu1 hp,Qj2,<-Ql1];exact h2
 have hb:=IK ht0;have hb2:=Aw ht1;have hy:y<(y / 4294967296 ^ k+1)*4294967296 ^ k:=by
  have:=Nat.lt_mul_div_succ y hp;rw[Qj2];exact this
 generalize y / 4294967296 ^ k=t at*;have hq:2 ^ gq t*2 ^ (32-gq t)=4294967296:=by rw[<-Qx0,show gq t+(32-gq t)=32 by omega]
 have hr:0<2 ^ (32-gq t):=Qq2 omK;generalize 2 ^ (32-gq t)=r,2 ^ gq t=s at*;constructor
 ·rw[Ql1]
  calc y*r<(t+1)*4294967296 ^ k*r:=Q51 hy hr
   _<=s*4294967296 ^ k*r:=Qe1 _ (Qe1 _ hb.2)
   _=4294967296 ^ k*4294967296:=by rw[Nat.mul_right_comm,hq,Qj2]
 ·exact Qc2 h1 (Xl1 _ hr)
theorem Te {u v k j:Nat}(hv:4294967296 ^ k<=v)(hu:u<v*4294967296 ^ j*4294967296) :
  u / (v*4294967296 ^ j)<=min (u / 4294967296 ^ (j+k) / (v / 4294967296 ^ k)) 4294967295:=by
 have hp:0<4294967296 ^ k:=Qq2 omK;have hp2:0<4294967296 ^ j:=Qq2 omK;have hvt:0<v / 4294967296 ^ k:=Xw0 hv hp;have hw:0<v*4294967296 ^ j:=Xd0 omK hp2;have h1:u / (v*4294967296 ^ j)<4294967296:=by rw[Qu1 hw,Qj2];exact hu
 have h2:=X2 u (v*4294967296 ^ j);have h3:=X2 v (4294967296 ^ k);have:u / (v*4294967296 ^ j)<=u / 4294967296 ^ (j+k) / (v / 4294967296 ^ k):=by
  rw[Xz2 hvt,Xz2 (Qq2 omK)];generalize u / (v*4294967296 ^ j)=d,v / 4294967296 ^ k=t at*;rw[Qx0];generalize 4294967296 ^ k=K,4294967296 ^ j=J at*
  calc d*t*(J*K)=d*(t*K*J):=by grind
   _<=d*(v*J):=Q82 _ (Qe1 _ h3)
   _<=u:=h2
 omega
theorem PN {u n:Nat}(h:u<4294967296 ^ (n+2)):bF (enc u) (n+1)*4294967296+bF (enc u) n=u / 4294967296 ^ n/\bF (enc u) (n+1)<4294967296/\bF (enc u) n<4294967296:=by
 rw[wB,wB];have hp:0<4294967296 ^ n:=Qq2 omK;have h1:u / 4294967296 ^ (n+1)=u / 4294967296 ^ n / 4294967296:=by rw[Qy2,Ql1]
 have h2:u / 4294967296 ^ n<4294967296*4294967296:=by
  rw[Qu1 hp];rw[Qx0]at h;have e:(4294967296:Nat) ^ 2=4294967296*4294967296:=by rfl
  rw[e,Qj2]at h;exact h
 rw[h1];generalize u / 4294967296 ^ n=t at*;have h3:t / 4294967296<4294967296:=by omega
 omega
theorem Tf {u w X Q B:Nat}(hB:X=Q*B*w+u):X=(u / w+B*Q)*w+u % w:=by
 have:=Xs0 u w;rw[Qq1,Qj2 B Q,Qj2 (u / w) w];omega
end Fi.S
namespace Fi.S
open Go Fi
set_option maxHeartbeats 8000000
def Ag:aG:=zx.body.r.r.r.r.r.l.r.bl.lp
def oiB:aG:=Ag.r.l.bl.r.r.r.l.bl.lp
def X9 (up u v:Nat)(es:List D)(L j g p:Nat)(t:FV):St:=(st0 [.u,.u,.ls (.loc 0) 0 1 0 L,.u,.u,.u,.d (.v (.int .i64 up)),.d (LD (enc u)),.d (LD (enc v)),.d (.v (.int .i64 j)),.u,.d (.v (.int .u64 g)),.d (LD (enc p)),.u,.u,t] [.row 0 1 es])
theorem Lm (up u v L j d:Nat)(es:List D)(hv:0<v)(hj:j<=100000000)(lu:(enc u).length<=100000000)(lv:(enc v).length<=100000000)(lw:(enc (v*4294967296 ^ j*4294967295)).length<=100000000)
  (hd:d=u / (v*4294967296 ^ j)) (g:Nat) (hg:d<=g) (hg2:g<=4294967295) :
  Ex E0 (.loop oiB) (X9 up u v es L j g (v*4294967296 ^ j*g) .u) (.exit 2,X9 up u v es L j d (v*4294967296 ^ j*d) (.d (.v (.bool false)))):=by
 have hw:0<v*4294967296 ^ j:=Xd0 hv (Qq2 omK);have hl:=Au (enc v) (32*j) omK lv (aS _);rw[aV,X22,show(2:Nat) ^ 32=4294967296 by rfl]at hl;generalize v*4294967296 ^ j=w at*;have key:=Ex.inv (E:=E0) (b:=oiB) (S:=fun g=>X9 up u v es L j g (w*g) .u) (fun g=>g) (fun g=>d<=g/\g<=4294967295) (fun r=>r=(.exit 2,X9 up u v es L j d (w*d) (.d (.v (.bool false))))) ?_ g ⟨hg,hg2⟩
 ·obtain⟨r,hr,rfl⟩:=key;exact hr
 ·clear hg hg2 g;rintro g ⟨h1,h2⟩;have lp:(enc (w*g)).length<=100000000:=Qc2 (bI (Q82 w h2)) lw;obtain⟨n1,hc⟩:=(yo (enc u) (enc (w*g)) omK omK (aS _) (aS _)).any;rw[aV,aV]at hc
  by_cases hlt:d<g
  ·have hu:u<w*g:=by rw[hd,Qu1 hw,Qj2]at hlt;exact hlt
   have hc1:dO u (w*g)=-1:=by unfold dO;rw[if_pos hu]
   rw[hc1]at hc;have hle:w<=w*g:=Xl1 w omK;obtain⟨n2,hl⟩:=hl.any;obtain⟨n3,hm⟩:=(Bg (enc (w*g)) (enc w) omK (bI hle) (aS _) (aS _) (by rw[aV,aV];exact hle)).any;have hsub:w*g-w=w*(g-1):=by rw[Nat.mul_sub,Xw1]
   rw[aV,aV,hsub]at hm;replace hc:=hc (n1+n2+n3) omK;replace hl:=hl (n1+n2+n3) omK;replace hm:=hm (n1+n2+n3) omK;generalize n1+n2+n3=N at*;refine .inl ⟨g-1,Ex.of (n:=N+60) ?_,by omega,by omega,by omega⟩;have w1:ah .u64 ((g:Int)-1)=((g-1:Nat):Int):=by rw[wrap_u64 omK];omega
   have w2:ah .i64 (32*(j:Int))=((32*j:Nat):Int):=by rw[wrap_i64 omK];omega
   clear hc1 hsub lp lw hd;unfold X9;simp only[LD]at hc hl hm ⊢;generalize LL (enc u)=us,LL (enc v)=vs,LL (enc w)=ws,LL (enc (w*g))=ps,LL (enc (w*(g-1)))=ps' at*;generalize g-1=g',32*j=j32 at*;simp -implicitDefEqProofs[Ag,oiB,f226,hc,hl,hm,w1,w2]
  ·have hu:¬ u<w*g:=by rw[hd,Qu1 hw,Qj2]at hlt;exact hlt
   have hg:g=d:=by omega
   have hc1:(dO u (w*g):Int)=0\/dO u (w*g)=1:=by unfold dO;rw[if_neg hu];split<;>simp
   replace hc:=hc n1 omK;refine .inr ⟨_,Ex.of (n:=n1+60) ?_,by simp,rfl⟩;rw[<-hg];clear lp lw hd hg;unfold X9;simp only[LD]at hc ⊢;generalize LL (enc u)=us,LL (enc v)=vs,LL (enc (w*g))=ps at*;rcases hc1 with e|e<;>rw[e]at hc<;>simp -implicitDefEqProofs[Ag,oiB,f226,hc]
def Bq (up u v:Nat)(es:List D)(L:Nat)(k:Int)(t:FV):St:=(st0 [.u,.u,.ls (.loc 0) 0 1 0 L,.u,.u,.u,.d (.v (.int .i64 up)),.d (LD (enc u)),.d (LD (enc v)),.d (.v (.int .i64 k)),.u,.u,.u,.u,t,.u] [.row 0 1 es])
theorem Lp (up u v k L j:Nat)(es:List D)(hv:4294967296 ^ k<=v)(hv2:v<4294967296 ^ (k+1))(hj:j<=100000000)(hk:k<=100000000)(lu:(enc u).length<=100000000)(hu:u<4294967296 ^ (j+k+2)) :
  Ex E0 Ag.r.l.bl.r.l {Bq up u v es L j .u with vars:=[.u,.u,.ls (.loc 0) 0 1 0 L,.u,.u,.u,.d (.v (.int .i64 up)),.d (LD (enc u)),.d (LD (enc v)),.d (.v (.int .i64 j)),.d (.v (.int .i64 ((j+k+1:Nat):Int))),.u,.u,.u,.u,.u]}
   (.norm,{Bq up u v es L j .u with vars:=[.u,.u,.ls (.loc 0) 0 1 0 L,.u,.u,.u,.d (.v (.int .i64 up)),.d (LD (enc u)),.d (LD (enc v)),.d (.v (.int .i64 j)),.u,.d (.v (.int .u64 ((min (u / 4294967296 ^ (j+k) / (v / 4294967296 ^ k)) 4294967295:Nat):Int))),.u,.u,.u,.u]}):=by
 have lv:(LL (enc v)).length=k+1:=by simp[LL,Ay hv hv2]
 have lv':=Ay hv hv2;obtain⟨e1,b1,b2⟩:=PN hu;have e3:bF (enc v) k=v / 4294967296 ^ k:=by
  rw[wB,Qw1];rw[Qu1 (Qq2 omK),Qj2,<-Ql1];exact hv2
 have b3:v / 4294967296 ^ k<4294967296:=by rw[<-e3,wB];exact Qv0 _ omK
 have b4:0<v / 4294967296 ^ k:=Xw0 hv (Qq2 omK);have h1:=fun m=>j4 m (enc u) omK (j+k+1) omK (aS _)
 have h2:=fun m=>j4 m (enc u) omK (j+k) omK (aS _)
 have h3:=fun m=>j4 m (enc v) omK k omK (aS _)
 rw[e3]at h3;rw[<-e1];generalize bF (enc u) (j+k+1)=x1 at*;generalize bF (enc u) (j+k)=x0,v / 4294967296 ^ k=vt at*;have w1:=SL b1;have w2:=Bi b1 b2;obtain⟨P,hP⟩:∃ P:Nat,(P:Int)=(x1:Int)*4294967296:=⟨x1*4294967296,by omega⟩
 obtain⟨T,hT⟩:∃ T:Nat,T=x1*4294967296+x0:=⟨_,rfl⟩
 rw[<-hP]at w1 w2;rw[show(P:Int)+(x0:Int)=(T:Int) by omega]at w2;rw[<-hT];have w5:Int.tdiv (T:Int) (vt:Int)=((T / vt:Nat):Int):=by rw[Q62 omK,Xy1]
 have hq:T / vt<18446744073709551616:=Xb1 (Xm1 _ _) omK;generalize T / vt=Q at*;have w6:ah .u64 (Q:Int)=(Q:Int):=wrap_u64 omK;have w7:ah .i64 (((j+k+1:Nat):Int)-1)=((j+k:Nat):Int):=by rw[wrap_i64 omK];omega
 have w8:ah .i64 (((k+1:Nat):Int)-1)=(k:Int):=by rw[wrap_i64 omK];omega
 have hd0:¬ ((vt:Int)=0):=by omega
 have XZ:¬ vt=0:=by omega
 clear hP hT e1 e3 hu hv hv2;obtain⟨G,hG⟩:∃ G:Nat,G=min Q 4294967295:=⟨_,rfl⟩
 rw[<-hG];have hmin:((4294967295:Int)<(Q:Int)/\(G:Int)=4294967295)\/(¬ (4294967295:Int)<(Q:Int)/\(Q:Int)=(G:Int)):=by omega
 clear hG;refine Ex.of (n:=90) ?_;unfold Bq;simp only[LD]at h1 h2 h3 ⊢;generalize LL (enc u)=us,LL (enc v)=vs,j+k+1=n at*;generalize j+k=n1,k+1=m at*;rcases hmin with ⟨a,b⟩|⟨a,b⟩
 ·simp -implicitDefEqProofs[Ag,f226,lv,h1,h2,h3,w1,w2,w5,w6,w7,w8,hd0,XZ,a,b]
 ·rw[b]at a w5 w6;simp -implicitDefEqProofs[Ag,f226,lv,h1,h2,h3,w1,w2,w5,w6,w7,w8,hd0,XZ,a]
theorem Tg (up u v L:Nat)(es:List D):EX E0 60 Ag (Bq up u v es L (-1) .u)=some (.exit 0,Bq up u v es L (-1) (.d (.v (.bool false)))):=by
 unfold Bq;simp only[LD];generalize LL (enc u)=us,LL (enc v)=vs at*;simp -implicitDefEqProofs[Ag,f226]
theorem PO (up u v L j g:Nat)(es:List D)(hj:j<=100000000)(hg:g<=4294967295)(lv:(enc v).length<=10000000) :
  Ex E0 Ag.r.l.bl.r.r.l {Bq up u v es L j .u with vars:=[.u,.u,.ls (.loc 0) 0 1 0 L,.u,.u,.u,.d (.v (.int .i64 up)),.d (LD (enc u)),.d (LD (enc v)),.d (.v (.int .i64 j)),.u,.d (.v (.int .u64 g)),.u,.u,.u,.u]}
   (.norm,X9 up u v es L j g (v*4294967296 ^ j*g) .u):=by
 have lg:(enc g).length<=1:=gp (k:=1) omK;have lvg:(enc (v*g)).length<=100000000:=by
  refine Qc2 (gp (k:=(enc v).length+1) ?_) omK;have h1:=nN (aS v);rw[aV]at h1;rw[Ql1];exact Xb1 (Q82 v (show g<=4294967296 by omega)) (Q51 h1 omK)
 obtain⟨Kq,_,h1,h2,h3⟩:=((iC [g] (by simp)).j ((IB (enc v) (enc g) omK omK (aS _) (aS _)).j ((Au (enc (v*g)) (32*j) omK lvg (aS _)).any))).at 0;rw[IC _ omK]at h1;rw[aV,aV]at h2;rw[aV,X22,show(2:Nat) ^ 32=4294967296 by rfl]at h3;rw[show v*g*4294967296 ^ j=v*4294967296 ^ j*g by rw[Nat.mul_right_comm]]at h3;generalize Kq=N at*;have w1:ah .u32 (g:Int)=(g:Int):=wrap_u32 omK;have w2:ah .i64 (32*(j:Int))=((32*j:Nat):Int):=by rw[wrap_i64 omK];omega
 refine Ex.of (n:=N+60) ?_;unfold Bq X9;simp only[LD,LL,Qd2,Qc0]at h1 h2 h3 ⊢;generalize List.map (fun(x:Nat)=>D.v (Value.int IntKind.u32 (x:Int))) (enc u)=us at*;generalize List.map (fun(x:Nat)=>D.v (Value.int IntKind.u32 (x:Int))) (enc v)=vs at*;generalize List.map (fun(x:Nat)=>D.v (Value.int IntKind.u32 (x:Int))) (enc g)=gs at*;generalize List.map (fun(x:Nat)=>D.v (Value.int IntKind.u32 (x:Int))) (enc (v*g))=vgs at*;generalize List.map (fun(x:Nat)=>D.v (Value.int IntKind.u32 (x:Int))) (enc (v*4294967296 ^ j*g))=ps at*;generalize 32*j=j32 at*;simp -implicitDefEqProofs[Ag,f226,h1,h2,h3,w1,w2]
theorem Lr (up u v k L j:Nat)(qs:List Nat)(hv:4294967296 ^ k<=v)(hv2:v<4294967296 ^ (k+1))(hj:j<=50000000)(hk:k<=1000000)(lu:(enc u).length<=100000000)(hu:u<v*4294967296 ^ j*4294967296)
  (hL:j+1+qs.length=L) :
  Ex E0 Ag (Bq up u v (LL (jW (j+1) qs)) L j .u) (.norm,Bq up (u % (v*4294967296 ^ j)) v (LL (jW j (u / (v*4294967296 ^ j)::qs))) L ((j:Int)-1) .u):=by
 have hv0:0<v:=Qk0 (Qq2 omK) hv;have hw:0<v*4294967296 ^ j:=Xd0 hv0 (Qq2 omK);have lv:=Ay hv hv2;have hdig:=Te hv hu;have hd32:u / (v*4294967296 ^ j)<4294967296:=by rw[Qu1 hw,Qj2];exact hu
 have hu2:u<4294967296 ^ (j+k+2):=by
  refine Qk0 hu ?_;rw[show j+k+2=(k+1)+j+1 by omega,Ql1,Qx0];exact Qe1 _ (Qe1 _ omK)
 have lw:(enc (v*4294967296 ^ j*4294967295)).length<=100000000:=by
  refine Qc2 (gp (k:=(k+1)+j+1) ?_) omK;rw[Ql1,Qx0];exact Xb1 (Q82 _ (show 4294967295<=4294967296 by omega)) (Q51 (Q51 hv2 (Qq2 omK)) omK)
 have abK:=Lp up u v k L j (LL (jW (j+1) qs)) hv hv2 omK omK lu hu2;have aeZ:=PO up u v L j (min (u / 4294967296 ^ (j+k) / (v / 4294967296 ^ k)) 4294967295) (LL (jW (j+1) qs)) omK (Nat.min_le_right ..) omK;have abL:=Lm up u v L j (u / (v*4294967296 ^ j)) (LL (jW (j+1) qs)) hv0 omK lu omK lw rfl _ hdig (Nat.min_le_right ..);have hmul:v*4294967296 ^ j*(u / (v*4294967296 ^ j))<=u:=Nat.mul_div_le u _;obtain⟨n1,hm⟩:=(Bg (enc u) (enc (v*4294967296 ^ j*(u / (v*4294967296 ^ j)))) omK (bI hmul) (aS _) (aS _) (by rw[aV,aV];exact hmul)).get;have hmod:u-v*4294967296 ^ j*(u / (v*4294967296 ^ j))=u % (v*4294967296 ^ j):=by
  have:=Xs0 u (v*4294967296 ^ j);omega
 rw[aV,aV,hmod]at hm;have hz:=NU qs j;have hset:=Iw qs j (u / (v*4294967296 ^ j));have hlen:=qZ qs (j+1);have hlv:(LL (enc v)).length=k+1:=by simp[LL,lv]
 generalize LL (jW (j+1) qs)=es at*;rw[<-hset];clear hset;generalize u / (v*4294967296 ^ j)=d,min (u / 4294967296 ^ (j+k) / (v / 4294967296 ^ k)) 4294967295=g at*;generalize v*4294967296 ^ j=w at*;have hjL:j<L:=by omega
 have hz2:=idx hz;have w1:ah .i64 ((j:Int)+((k+1:Nat):Int))=((j+k+1:Nat):Int):=by rw[wrap_i64 omK];omega
 have w2:ah .u32 (d:Int)=(d:Int):=wrap_u32 omK;have w3:ah .i64 ((j:Int)-1)=(j:Int)-1:=wrap_i64 omK;have w4:(0:Int)<=(j:Int):=by omega
 show Ex E0 (.seq Ag.l (.seq (.block 1 (.seq Ag.r.l.bl.l (.seq Ag.r.l.bl.r.l (.seq Ag.r.l.bl.r.r.l (.seq (.block 2 (.loop oiB)) (.seq Ag.r.l.bl.r.r.r.r.l Ag.r.l.bl.r.r.r.r.r)))))) Ag.r.r)) _ _;refine Ex.seq (st1:=Bq up u v es L j (.d (.v (.bool true)))) (Ex.of (n:=40) ?_) (Ex.seq (st1:=Bq up (u % w) v (es.set j (.v (.int .u32 (d:Int)))) L j .u) (Ex.gm (Ex.seq (Ex.of (n:=40) ?_) (Ex.seq abK (Ex.seq aeZ (Ex.seq abL.block
  (Ex.seq (st1:={Bq up (u % w) v es L j .u with vars:=[.u,.u,.ls (.loc 0) 0 1 0 L,.u,.u,.u,.d (.v (.int .i64 up)),.d (LD (enc (u % w))),.d (LD (enc v)),.d (.v (.int .i64 j)),.u,.d (.v (.int .u64 d)),.u,.u,.u,.u]}) (Ex.of (n:=n1+40) ?_) (Ex.of (n:=40) ?_))))))) (Ex.of (n:=40) ?_))
 ·unfold Bq;simp only[LD];generalize LL (enc u)=us at*;generalize LL (enc v)=vs at*;simp -implicitDefEqProofs[Ag,f226,w4]
 ·unfold Bq;simp only[LD];generalize LL (enc u)=us at*;generalize LL (enc v)=vs at*;generalize j+k+1=n at*;generalize k+1=m at*;simp -implicitDefEqProofs[Ag,f226,hlv,w1]
 ·unfold Bq X9;simp only[LD]at hm ⊢;generalize LL (enc u)=us at*;generalize LL (enc v)=vs at*;generalize LL (enc (u % w))=ms at*;generalize LL (enc (w*d))=ps at*;simp -implicitDefEqProofs[Ag,f226,hm]
 ·unfold Bq;simp only[LD];generalize LL (enc (u % w))=us at*;generalize LL (enc v)=vs at*;simp -implicitDefEqProofs[Ag,f226,hz,hz2,w2,w4,hjL,hlen]
 ·unfold Bq;simp only[LD];generalize LL (enc (u % w))=us at*;generalize LL (enc v)=vs at*;simp -implicitDefEqProofs[Ag,f226,w3]
theorem PQ (up u0 v k L:Nat)(hv:4294967296 ^ k<=v)(hv2:v<4294967296 ^ (k+1))(hL:L<=50000000)(hk:k<=1000000)(lu:(enc u0).length<=100000000)(hu:u0<v*4294967296 ^ L) :
  ∃ r,Ex E0 (.loop Ag) (Bq up u0 v (LL (jW L [])) L ((L:Int)-1) .u) r /\
   ∃ qs,bV qs/\qs.length=L/\val qs=u0 / v/\r=(.exit 0,Bq up (u0 % v) v (LL qs) L (-1) (.d (.v (.bool false)))):=by
 have hv0:0<v:=Qk0 (Qq2 omK) hv;refine Ex.inv (S:=fun t:Nat × Nat × List Nat=>Bq up t.2.1 v (LL (jW t.1 t.2.2)) L ((t.1:Int)-1) .u) (fun t=>t.1)
  (fun t=>t.1+t.2.2.length=L/\bV t.2.2/\t.2.1<v*4294967296 ^ t.1/\u0=val t.2.2*4294967296 ^ t.1*v+t.2.1) _ ?_ (L,u0,[]) ?_
 ·rintro⟨j,u,qs⟩ ⟨h1,h2,h3,h4⟩;simp only at h1 h2 h3 h4;cases j with
  | zero =>
   simp only[Nat.pow_zero,Xw1]at h3 h4;have hd:u0 / v=val qs:=by rw[h4,Qj2,Xm0 hv0,Xb0 h3];rfl
   have hm:u0 % v=u:=by rw[h4,Qj2,X00,Qw1 h3]
   refine .inr ⟨_,?_,?_,qs,h2,by omega,hd.symm,rfl⟩
   ·rw[hm];have:=Tg up u v L (LL qs);simpa[jW] using Ex.of this
   ·simp
  | succ j =>
   have hu0:u<=u0:=by omega
   have hw:0<v*4294967296 ^ j:=Xd0 hv0 (Qq2 omK);have h3':u<v*4294967296 ^ j*4294967296:=by rw[Q61,<-Ql1];exact h3
   have hr:=Lr up u v k L j qs hv hv2 omK hk (Qc2 (bI hu0) lu) h3' omK;refine .inl ⟨(j,u % (v*4294967296 ^ j),u / (v*4294967296 ^ j)::qs),?_,by simp,?_,?_,?_,?_⟩
   ·simp only;rw[show(((j+1:Nat):Int)-1)=(j:Int) by omega];exact hr
   ·simp only[Qe2];omega
   ·intro y hy;rcases Qi1.1 hy with rfl|hy
    ·rw[Qu1 hw,Qj2];exact h3'
    ·exact h2 y hy
   ·exact Qv0 _ hw
   ·simp only[val];have e:u0=val qs*4294967296*(v*4294967296 ^ j)+u:=by
     rw[h4,Ql1]
     congr 1
     generalize 4294967296 ^ j=P;grind
    rw[Q61,Qj2 _ v];exact Tf e
 ·refine⟨by simp,?_,by simpa using hu,by simp[val]⟩;intro x hx;cases hx
theorem Ls {y:Nat}(hy:0<y):4294967296 ^ ((enc y).length-1)<=y:=by
 rcases Qg1 y (4294967296 ^ ((enc y).length-1)) with h|h
 ·have h1:=gp h;have h2:enc y≠[]:=by intro e;rw[dV]at e;omega
  have h3:0<(enc y).length:=Xg2.2 h2;omega
 ·exact h
theorem yz (y:Nat):y<4294967296 ^ (enc y).length:=by
 have:=nN (aS y)
 rwa [aV]at this
theorem Gd (x y:Nat)(hy:0<y)(lx:(enc x).length<=1000000)(ly:(enc y).length<=1000000) :
  Ca E0 aaB [.d (LD (enc x)),.d (LD (enc y))] (.d (.t [LD (enc (x / y)),LD (enc (x % y))]),none):=by
 by_cases hsm:y<4294967296
 ·have:=SY (enc x) y omK (aS x) hsm hy
  rwa [aV]at this
 ·have ajG:0<(enc y).length:=Xg2.2 (by intro e;rw[dV]at e;omega);obtain⟨k,hk⟩:∃ k,(enc y).length=k+1:=⟨(enc y).length-1,by omega⟩
  have h1:4294967296 ^ k<=y:=by have:=Ls hy;rw[hk]at this;simpa using this
  have h2:y<4294967296 ^ (k+1):=by have:=yz y;rwa [hk]at this
  have hk1:1<=k:=by
   rcases Qt0 k with rfl|h
   ·simp at h2;omega
   ·exact h
  obtain⟨lo,htop,hlo⟩:=X8 k h1 h2;obtain⟨g1,g2⟩:=Td h1 h2;have ht1:y / 4294967296 ^ k<4294967296:=by rw[Qu1 (Qq2 omK),Qj2,<-Ql1];exact h2
  have hbl:=Aw ht1;have Gf:=fun m=>Ll m lo (y / 4294967296 ^ k) ht1 omK
  rw[<-htop,hlo]at Gf;generalize hbe:gq (y / 4294967296 ^ k)=bl at*;generalize hup:32-bl=up at*;have ae0:up<=32:=by omega
  obtain⟨n1,hlx⟩:=(Au (enc x) up omK omK (aS x)).any;obtain⟨n2,hly⟩:=(Au (enc y) up omK omK (aS y)).any;rw[aV]at hlx hly;have hp:0<2 ^ up:=Qq2 omK;have lu:(enc (x*2 ^ up)).length<=(enc x).length+1:=by
   refine gp ?_;rw[Ql1];have e1:=yz x;have e2:2 ^ up<=4294967296:=by
    have:=Qt2 (n:=2) omK ae0;simpa using this
   exact Qk0 (Q51 e1 hp) (Q82 _ e2)
  have hq:(x*2 ^ up) / (y*2 ^ up)=x / y:=Nat.mul_div_mul_right x y hp;have hr:(x*2 ^ up) % (y*2 ^ up)=x % y*2 ^ up:=Nat.mul_mod_mul_right (2 ^ up) x y;have hr2:x % y*2 ^ up / 2 ^ up=x % y:=Nat.mul_div_cancel _ hp;have hlv:(enc (y*2 ^ up)).length=k+1:=Ay g2 g1;have lr:(enc (x % y*2 ^ up)).length<=100000000:=Qc2 (bI (Qe1 _ (Nat.mod_le x y))) omK;obtain⟨n3,Gg⟩:=(S_ (enc (x % y*2 ^ up)) up omK lr (aS _)).any;rw[aV,hr2]at Gg;have hu0:x*2 ^ up<y*2 ^ up*4294967296 ^ ((enc (x*2 ^ up)).length-k):=by
   refine Qk0 (yz (x*2 ^ up)) ?_;refine Qc2 ?_ (Qe1 _ g2);rw[<-Qx0];exact Qt2 omK omK
  obtain⟨r,hloop,qs,hqs,hql,hqv,rfl⟩:=PQ up (x*2 ^ up) (y*2 ^ up) k ((enc (x*2 ^ up)).length-k) g2 g1 omK omK omK hu0;rw[hq]at hqv;rw[hr]at hloop;obtain⟨n4,hc⟩:=(iC qs omK).any;rw[df hqs,hqv]at hc;replace hlx:=hlx (n1+n2+n3+n4) omK;replace hly:=hly (n1+n2+n3+n4) omK;replace Gg:=Gg (n1+n2+n3+n4) omK;replace hc:=hc (n1+n2+n3+n4) omK;generalize n1+n2+n3+n4=N at*;have hlY:(LL (enc y)).length=k+1:=by simp[LL,hk]
  have hlV:(LL (enc (y*2 ^ up))).length=k+1:=by simp[LL,hlv]
  have hlU:(LL (enc (x*2 ^ up))).length=(enc (x*2 ^ up)).length:=by simp[LL]
  have hlQ:(LL qs).length=(enc (x*2 ^ up)).length-k:=by simp[LL,hql]
  have hz:LL (jW ((enc (x*2 ^ up)).length-k) [])=List.replicate ((enc (x*2 ^ up)).length-k) (.v (.int .u32 0)):=by simp[LL,jW]
  have hLb:(enc (x*2 ^ up)).length-k<=2000000:=by omega
  have hmax:∃ z:Int,z=((enc (x*2 ^ up)).length:Int)-((k+1:Nat):Int)+1/\((z > 0/\z=(((enc (x*2 ^ up)).length-k:Nat):Int))\/(¬ z > 0/\(enc (x*2 ^ up)).length-k=0)):=⟨_,rfl,by omega⟩
  obtain⟨z,hze,hzc⟩:=hmax;have lU:(enc (x*2 ^ up)).length<=1000001:=by omega
  have w1:ah .i64 (32*((k+1:Nat):Int))=((32*(k+1):Nat):Int):=by rw[wrap_i64 omK];omega
  have w2:ah .i64 (((32*(k+1):Nat):Int)-((32*k+bl:Nat):Int))=(up:Int):=by rw[wrap_i64 omK];omega
  have w3:ah .i64 (((enc (x*2 ^ up)).length:Int)-((k+1:Nat):Int))=((enc (x*2 ^ up)).length:Int)-((k+1:Nat):Int):=wrap_i64 omK;have w4:ah .i64 (((enc (x*2 ^ up)).length:Int)-((k+1:Nat):Int)+1)=z:=by rw[wrap_i64 omK,hze]
  have w5:ah .i64 ((((enc (x*2 ^ up)).length-k:Nat):Int)-1)=(((enc (x*2 ^ up)).length-k:Nat):Int)-1:=wrap_i64 omK;have hne:(((k+1:Nat):Int)==1)=false:=by simp;omega
  clear hu0 g1 g2 hq hr hr2 lr hbe htop hlo hql hqs hqv h1 h2 ht1 hbl;generalize hX:enc (x*2 ^ up)=eX at*;generalize hY:enc (y*2 ^ up)=eY at*;refine Ca.body (o:=.ret) (st1:=(st0 [.u,.u,.d (LD (enc (x / y))),.d (LD (enc (x % y))),.u,.u,.u,.u,.u,.u,.u,.u,.u,.u,.u,.u] [.gT 0 1 (LL qs)])) rfl (k226:E0.fn _=_) rfl ?_ (by intro id h;cases h) ?_
  ·show Ex E0 (.seq zx.body.l (.seq zx.body.r.l (.seq zx.body.r.r.l (.seq zx.body.r.r.r.l (.seq zx.body.r.r.r.r.l (.seq (.seq zx.body.r.r.r.r.r.l.l (.block 0 (.loop Ag))) zx.body.r.r.r.r.r.r)))))) _ _;refine Ex.seq (st1:=(st0 [.d (LD (enc x)),.d (LD (enc y)),.u,.u,.u,.u,.u,.u,.u,.u,.u,.u,.u,.u,.u,.u] [])) (Ex.of (n:=40) ?_)
    (Ex.seq (st1:=(st0 [.d (LD (enc x)),.d (LD (enc y)),.u,.u,.u,.u,.u,.u,.u,.u,.u,.u,.u,.d (.v (.bool false)),.u,.u] [])) (Ex.of (n:=40) ?_)
    (Ex.seq (st1:=(st0 [.d (LD (enc x)),.d (LD (enc y)),.u,.u,.u,.u,.d (.v (.int .i64 up)),.u,.u,.u,.u,.u,.u,.u,.u,.u] [])) (Ex.of (n:=200) ?_)
    (Ex.seq (st1:=(st0 [.u,.u,.u,.u,.u,.u,.d (.v (.int .i64 up)),.d (LD eX),.d (LD eY),.u,.u,.u,.u,.u,.u,.u] [])) (Ex.of (n:=N+40) ?_)
    (Ex.seq (st1:=(st0 [.u,.u,.ls (.loc 0) 0 1 0 (eX.length-k),.u,.u,.u,.d (.v (.int .i64 up)),.d (LD eX),.d (LD eY),.u,.u,.u,.u,.u,.u,.u] [.row 0 1 (LL (jW (eX.length-k) []))])) (Ex.of (n:=40) ?_)
    (Ex.seq (Ex.seq (Ex.of (n:=40) ?_) hloop.block) (Ex.of (n:=N+40) ?_))))))
   ·simp -implicitDefEqProofs[f226]
   ·simp only[LD];generalize LL (enc x)=xs,LL (enc y)=ys,k+1=m at*;simp -implicitDefEqProofs[f226,hlY,hne]
   ·simp only[LD]at Gf ⊢;generalize LL (enc x)=xs,LL (enc y)=ys,k+1=m at*;generalize 32*m=m32,32*k+bl=kb at*;simp -implicitDefEqProofs[f226,hlY,Gf,w1,w2]
   ·simp only[LD]at hlx hly ⊢;generalize LL (enc x)=xs,LL (enc y)=ys,LL eX=Xs,LL eY=Ys at*;simp -implicitDefEqProofs[f226,hlx,hly]
   ·have hm1:((eX.length-k:Nat):Int)*4<=1099511627776:=by omega
    have hm2:((eX.length-k:Nat):Int)<=1099511627776:=by omega
    rw[hz];generalize eX.length-k=L at*;generalize eX.length=lX at*;simp only[LD];generalize LL eX=Xs,LL eY=Ys,k+1=m at*;rcases hzc with ⟨a,b⟩|⟨a,b⟩
    ·rw[b]at w4 a;replace a:0<L:=by omega
     simp -implicitDefEqProofs[f226,hlU,hlV,w3,w4,a,hm1,hm2,most]
    ·subst b;simp -implicitDefEqProofs[f226,hlU,hlV,w3,w4,a,most]
   ·unfold Bq;simp only[hX,hY,LD];have hlR:(LL (jW (eX.length-k) [])).length=eX.length-k:=by rw[qZ];simp
    generalize LL (jW (eX.length-k) [])=es at*;generalize eX.length-k=L,LL eX=Xs,LL eY=Ys at*;simp -implicitDefEqProofs[f226,w5]
   ·unfold Bq;simp only[LD]at hc Gg ⊢;clear hloop;generalize LL (enc (x % y*2 ^ up))=rs,LL (enc (y*2 ^ up))=Ys,LL (enc (x / y))=as1 at*;generalize LL (enc (x % y))=as2,eX.length-k=L at*;have htk:(LL qs).take L=LL qs:=Qg0 omK;generalize LL qs=Qs at*;simp -implicitDefEqProofs[ae.view,f226,hlQ,htk,hc,Gg]
  ·simp -implicitDefEqProofs[f226,LD,uC]
theorem Lt (a b:Nat)(la:(enc a).length<=1000000)(lb:(enc b).length<=1000000)(hb0:0<b):Ex E0 gcB (Eg a b .u) (.norm,Eg b (a % b) .u):=by
 obtain⟨n0,ho⟩:=(Gd a b hb0 la lb).get;refine Ex.of (n:=n0+60) ?_;unfold Eg;have hlb:∃ m,(LL (enc b)).length=m+1:=by
  have:0<(enc b).length:=Xg2.2 (by intro e;rw[dV]at e;omega);exact⟨(enc b).length-1,by simp[LL];omega⟩
 obtain⟨m,hlb⟩:=hlb;have hm:0<(m:Int)+1:=by omega
 simp only[LD]at ho ⊢;generalize LL (enc a)=as',LL (enc b)=bs,LL (enc (a / b))=qs,LL (enc (a % b))=rs at*;simp -implicitDefEqProofs[gcB,f183,hlb,ho,hm]
theorem PR (a b:Nat)(la:(enc a).length<=1000000)(lb:(enc b).length<=1000000):Ex E0 (.loop gcB) (Eg a b .u) (.exit 0,Eg (Nat.gcd a b) 0 (.d (.v (.bool false)))):=by
 induction b using Nat.strongRecOn generalizing a with
 | ind b ih =>
  rcases Qt0 b with rfl|h0
  ·rw[Nat.gcd_zero_right];exact Ex.out (X0 a) (by simp)
  ·have hm:=Qv0 a h0;have:=ih (a % b) hm b lb (Qc2 (bI omK) lb);have hg:Nat.gcd a b=Nat.gcd b (a % b):=by rw[Xt0 a b,Nat.gcd_rec b a,Xt0]
   rw[hg];exact Ex.next (Lt a b la lb h0) this
theorem Ti (a b:Nat)(la:(enc a).length<=1000000)(lb:(enc b).length<=1000000):Ca E0 ahz [.d (LD (enc a)),.d (LD (enc b))] (.d (LD (enc (Nat.gcd a b))),none):=by
 have hl:=PR a b la lb;generalize Nat.gcd a b=g at*;refine Ca.body (o:=.ret) (st1:=(st0 [.u,.u,.d (LD (enc g)),.u,.u] [])) rfl (k183:E0.fn _=_) rfl ?_ (by intro id h;cases h) ?_
 ·show Ex E0 (.seq abC.body.l (.seq (.block 0 (.loop gcB)) abC.body.r.r)) _ _;refine Ex.seq (st1:=Eg a b .u) (Ex.of (n:=40) ?_) (Ex.seq hl.block (Ex.of (n:=40) ?_))
  ·unfold Eg;simp -implicitDefEqProofs[f183]
  ·unfold Eg;simp -implicitDefEqProofs[f183]
 ·simp -implicitDefEqProofs[f183,LD]
abbrev ahC:Nat:=182
abbrev akp:ai:=f182
abbrev abM:Nat:=109
abbrev ahD:ai:=f109
theorem Gh (n:Nat):CL E0 (n+20) ahC [] []=some (.d (.s 1 [.v (.int .u32 1)]),none):=by
 rw[av rfl (k182:E0.fn _=_) rfl];simp -implicitDefEqProofs[f182]
theorem Br:LD (enc 1)=.s 1 [.v (.int .u32 1)]:=by rw[jr omK omK];rfl
def u7 (l:List Nat):Bool:=decide (trim l=l)
theorem NV (n:Nat):u7 (enc n)=true:=by simp[u7,IL]
theorem nu {l:List Nat}(hl:bV l):u7 l=true↔l=enc (val l):=by
 unfold u7;rw[decide_eq_true_iff,df hl];exact⟨fun h=>h.symm,fun h=>h.symm⟩
theorem zy (m:Nat)(l:List Nat)(hl:l.length<=1000000000):CL E0 (m+30) XR [.d (LD l)] []=some (.d (.v (.bool (u7 l))),none):=by
 rw[av rfl (k180:E0.fn _=_) rfl];rcases Xa1 l with h|⟨b,x,h⟩
 ·rw[h];have:u7 []=true:=by simp[u7,trim]
  rw[this];simp -implicitDefEqProofs[f180,LD,LL]
 ·rw[Q32]at h;rw[h]at hl ⊢;have hlen:(LL (b++[x])).length=b.length+1:=by simp[LL]
  have hget:(LL (b++[x]))[b.length]?=some (.v (.int .u32 (x:Int))):=by simp[LL]
  have hb:(((b.length:Int)+1)==0)=false:=by simp;omega
  have hw:ah .i64 (b.length:Int)=(b.length:Int):=wrap_i64 (by simp at hl;omega);have hok:u7 (b++[x])=((x:Int) != 0):=by
   unfold u7
   by_cases hx:x=0
   ·subst hx;rw[tO];have h2:=q9 b;have h3:¬ trim b=b++[0]:=by
     intro e;rw[e]at h2;simp only[Qb0,Qe2,Qr2]at h2;omega
    simp[h3]
   ·rw[tN b x hx];simp[hx]
  rw[hok];simp only[LD];generalize LL (b++[x])=es at*;have Be:=idx hget;simp -implicitDefEqProofs[f180,hlen,hget,Be,hb,hw]
def raw (s:Bool)(a b:List Nat):D:=.a [.v (.bool s),LD a,LD b]
def dP (s:Bool)(a b:List Nat):Bool :=
 u7 a&&u7 b&&(if a=[] then !s&&decide (b=[]) else decide (b=[])||(decide (val b≠1)&&decide (Nat.gcd (val a) (val b)=1)))
theorem X_ {a:Nat}:(dO a 1 != 0)=decide (a≠1):=by
 unfold dO
 by_cases h:a<1
 ·rw[if_pos h];simp;omega
 ·rw[if_neg h]
  by_cases h2:a=1
  ·simp[h2]
  ·simp[h2]
theorem Ya {a:Nat}:(dO a 1==0)=decide (a=1):=by
 unfold dO
 by_cases h:a<1
 ·rw[if_pos h];simp;omega
 ·rw[if_neg h]
  by_cases h2:a=1
  ·simp[h2]
  ·simp[h2]
theorem yA (s:Bool)(a b:List Nat)(la:a.length<=1000000)(lb:b.length<=1000000)(ha:bV a)(hb:bV b):Ca E0 abM [.d (raw s a b)] (.d (.v (.bool (dP s a b))),none):=by
 have p1:=fun m=>zy m a omK
 have p2:=fun m=>zy m b omK
 have o1:=Gh;unfold dP
 by_cases hoa:u7 a=true
 ·by_cases Ij:u7 b=true
  ·rw[hoa]at p1 ⊢;rw[Ij]at p2 ⊢
   by_cases hna:a=[]
   ·subst hna;simp only[raw,LD,LL,Qc0]at p1 p2 ⊢
    by_cases hnb:b=[]
    ·subst hnb;refine Ca.bO (n:=60) ?_;rw[av rfl (k109:E0.fn _=_) rfl];simp only[Qc0]at p2 ⊢;cases s<;>simp -implicitDefEqProofs[f109,p1]
    ·have hlen:((List.map (fun(x:Nat)=>D.v (Value.int IntKind.u32 (x:Int))) b).length==0)=false:=by simp[hnb]
     refine Ca.bO (n:=60) ?_;rw[av rfl (k109:E0.fn _=_) rfl];have EL:¬ (List.map (fun(x:Nat)=>D.v (Value.int IntKind.u32 (x:Int))) b)=[]:=by simp[hnb]
     generalize List.map (fun(x:Nat)=>D.v (Value.int IntKind.u32 (x:Int))) b=bs at*;cases s<;>simp -implicitDefEqProofs[f109,p1,p2,hnb,hlen,EL]
   ·have hla:¬ (LL a)=[]:=by simp[LL,hna]
    by_cases hnb:b=[]
    ·subst hnb;refine Ca.bO (n:=60) ?_;rw[av rfl (k109:E0.fn _=_) rfl];simp only[raw,LD]at p1 p2 ⊢;generalize LL a=as' at*;simp only[LL,Qc0]at p2 ⊢;simp -implicitDefEqProofs[f109,p1,p2,hna,hla]
    ·have hlb:¬ (LL b)=[]:=by simp[LL,hnb]
     have ea:=(nu ha).1 hoa;have eb:=(nu hb).1 Ij;have l1:=gp (n:=1) (k:=1) omK;have hg:(enc (Nat.gcd (val a) (val b))).length<=1000000:=by
      refine Qc2 (bI (m:=Nat.gcd (val a) (val b)) (n:=val b) (Xy0 ?_ (Xv1 _ _))) (by rw[<-eb];omega);rcases Qt0 (val b) with h|h
      ·rw[h]at eb;rw[dx]at eb;exact absurd eb hnb
      ·exact h
     obtain⟨Kq,_,c1,c2,c3⟩:=((yo b (enc 1) omK omK hb (aS _)).j ((yo (enc (Nat.gcd (val a) (val b))) (enc 1) omK omK (aS _) (aS _)).j ((Ti (val a) (val b) (by rw[<-ea];omega) (by rw[<-eb];omega)).any))).at 0;generalize Kq=N at*;simp only[aV]at c1 c2;rw[<-ea,<-eb]at c3;rw[Br]at c1 c2;have e1:=X_ (a:=val b);have e2:=Ya (a:=Nat.gcd (val a) (val b));refine Ca.bO (n:=N+60) ?_;rw[av rfl (k109:E0.fn _=_) rfl];rw[if_neg hna];simp only[hnb,decide_false,Xc1,Qs0];rw[<-e1,<-e2];clear e1 e2 ea eb;generalize dO (val b) 1=k1,dO (Nat.gcd (val a) (val b)) 1=k2 at*;simp only[raw,LD]at p1 p2 c1 c2 c3 ⊢;generalize LL a=as',LL b=bs,LL (enc (Nat.gcd (val a) (val b)))=gs at*;cases hk1:(k1 != 0)
     ·simp -implicitDefEqProofs[f109,p1,p2,hla,hlb,o1,c1,c2,c3,hk1]
     ·simp -implicitDefEqProofs[f109,p1,p2,hla,hlb,o1,c1,c2,c3,hk1]
  ·simp only[Xy2]at Ij;rw[hoa]at p1 ⊢;rw[Ij]at p2 ⊢;refine Ca.bO (n:=60) ?_;rw[av rfl (k109:E0.fn _=_) rfl];simp only[raw,LD]at p1 p2 ⊢;generalize LL a=as',LL b=bs at*;simp -implicitDefEqProofs[f109,p1,p2]
 ·simp only[Xy2]at hoa;rw[hoa]at p1 ⊢;refine Ca.bO (n:=60) ?_;rw[av rfl (k109:E0.fn _=_) rfl];simp only[raw,LD]at p1 p2 ⊢;generalize LL a=as',LL b=bs at*;simp -implicitDefEqProofs[f109,p1,p2]
abbrev nOf:Nat:=185
abbrev fOf:ai:=f185
abbrev abN:Nat:=230
abbrev ahE:ai:=f230
abbrev ahF:Nat:=187
abbrev akr:ai:=f187
def sz (n:Nat):Nat:=(enc n).length
theorem uL {n k:Nat}(h:n<4294967296 ^ k):sz n<=k:=gp h
theorem IM (n:Nat):n<4294967296 ^ sz n:=yz n
theorem oQ {m n:Nat}(h:m<=n):sz m<=sz n:=bI h
theorem fu (a b:Nat):sz (a*b)<=sz a+sz b:=by
 refine uL ?_;rw[Qx0];have h1:=IM a;have h2:=IM b;exact Xb1 (Q82 a (Nat.le_of_lt h2)) (Q51 h1 (Qq2 omK))
theorem Lu (a b:Nat):sz (a+b)<=max (sz a) (sz b)+1:=by
 refine uL ?_;rw[Ql1];have h1:=Qk0 (IM a) (Qt2 (n:=4294967296) omK (Q11 (sz a) (sz b)));have h2:=Qk0 (IM b) (Qt2 (n:=4294967296) omK (Q00 (sz a) (sz b)));omega
theorem Bt:sz 1=1:=by unfold sz;rw[jr omK omK];rfl
def fq (s:Bool)(n d:Nat):D:=.a [.v (.bool s),LD (enc n),LD (enc d)]
def qs (x:Rat):Bool:=decide (x.num<0)
def qn (x:Rat):List Nat:=enc x.num.natAbs
def qd (x:Rat):List Nat:=if x.den=1 then [] else enc x.den
def qD (x:Rat):D:=raw (qs x) (qn x) (qd x)
def fqR (x:Rat):D:=fq (qs x) x.num.natAbs x.den
def qz (x:Rat):Nat:=max (sz x.num.natAbs) (sz x.den)
theorem Gi (x:Rat):bV (qn x):=aS _
theorem Gj (x:Rat):bV (qd x):=by
 unfold qd;split
 ·intro y hy;cases hy
 ·exact aS _
theorem Tj (x:Rat):(qn x).length<=qz x:=Q11 _ _
theorem Tk (x:Rat):(qd x).length<=qz x:=by
 unfold qd;split
 ·simp
 ·exact Q00 _ _
theorem tQ (x:Rat):dP (qs x) (qn x) (qd x)=true:=by
 have hd:=x.den_nz;have hr:Nat.gcd x.num.natAbs x.den=1:=x.reduced;have ok2:u7 (qd x)=true:=by
  unfold qd;split
  ·simp[u7,trim]
  ·exact NV _
 unfold dP;rw[show u7 (qn x)=true from NV _,ok2];simp only[Qs0]
 by_cases h0:qn x=[]
 ·rw[if_pos h0];have hz:x.num.natAbs=0:=dV.1 h0;have hz2:x.num=0:=Xt1.1 hz;rw[hz,Nat.gcd_zero_left]at hr;simp[qs,qd,hz2,hr]
 ·rw[if_neg h0];unfold qd;split
  ·simp
  ·rename_i h1;have e1:val (qn x)=x.num.natAbs:=aV _;simp[aV,e1,hr,h1]
theorem Bu (x:Rat)(hx:qz x<=1000000):Ca E0 nOf [.d (qD x)] (.d (fqR x),none):=by
 obtain⟨N,hv⟩:=(yA (qs x) (qn x) (qd x) (Qc2 (Tj x) hx) (Qc2 (Tk x) hx) (Gi x) (Gj x)).get;rw[tQ]at hv;have o1:=Gh;have hn:enc x.num.natAbs=qn x:=rfl;refine Ca.bO (n:=N+60) ?_;rw[av rfl (k185:E0.fn _=_) rfl];simp only[qD,fqR,fq,raw,hn];simp only[raw]at hv;generalize qs x=s at*
 by_cases hd:x.den=1
 ·have e:qd x=[]:=if_pos hd;rw[e]at hv ⊢;rw[hd,Br];simp only[LD]at hv ⊢;generalize LL (qn x)=ns at*;simp only[LL,Qc0]at hv ⊢;simp -implicitDefEqProofs[f185,hv,o1]
 ·have e:qd x=enc x.den:=if_neg hd;have EL:¬ LL (enc x.den)=[]:=by
   have:=x.den_nz;simp[LL,dV,this]
  rw[e]at hv ⊢;simp only[LD]at hv ⊢;generalize LL (qn x)=ns,LL (enc x.den)=ds at*;simp -implicitDefEqProofs[f185,hv,EL]
theorem Bv (m:Nat)(l:List Nat)(h0:l≠[])(hl:l.length<=100000000):CL E0 (m+30) abN [.d (LD l)] []=some (.d (LD l),none):=by
 rw[av rfl (k230:E0.fn _=_) rfl];obtain⟨x,r,rfl⟩:∃ x r,l=x::r:=by cases l with|nil=>exact absurd rfl h0|cons x r=>exact⟨x,r,rfl⟩
 simp only[LD,LL,Qd2];have hlen:(List.map (fun(x:Nat)=>D.v (Value.int IntKind.u32 (x:Int))) r).length<=100000000:=by simp at hl ⊢;omega
 have hone:∀ y ∈ List.map (fun(x:Nat)=>D.v (Value.int IntKind.u32 (x:Int))) r,D.one y=true:=by
  intro y hy;obtain⟨z,_,rfl⟩:=Qg2.1 hy;rfl
 generalize List.map (fun(x:Nat)=>D.v (Value.int IntKind.u32 (x:Int))) r=es at*;have hm:(es.length+1)*4<=1099511627776:=by omega
 have hm2:(es.length+1)<=1099511627776:=by omega
 simp -implicitDefEqProofs[f230,ae.view,most,hm,hm2]
def uD (s:Bool)(n:Nat):Int:=if s then -(n:Int) else n
def wC (s:Bool)(n d:Nat):Rat:=mkRat (uD s n) d
theorem u_ (s:Bool)(n:Nat):(uD s n).natAbs=n:=by cases s<;>simp[uD]
theorem tT {s:Bool}{n d:Nat}(hd:0<d):(wC s n d).den=d / Nat.gcd n d:=by
 unfold wC;rw[Rat.den_mkRat,if_neg omK,u_,Xt0]
theorem NW {s:Bool}{n d:Nat}(hd:0<d):(wC s n d).num=uD s (n / Nat.gcd n d):=by
 unfold wC;rw[Rat.num_mkRat,if_neg omK,u_,Xt0];have hg:Nat.gcd n d ∣ n:=Nat.gcd_dvd_left n d;cases s
 ·simp[uD]
 ·simp only[uD,if_true];rw[Int.neg_ediv_of_dvd (by exact_mod_cast hg)];simp
theorem tV {s:Bool}{n d:Nat}(hd:0<d):(wC s n d).num.natAbs=n / Nat.gcd n d:=by rw[NW hd,u_]
theorem Bw {s:Bool}{n d:Nat}(hd:0<d):qs (wC s n d)=if n=0 then false else s:=by
 have hg:0<Nat.gcd n d:=Xt2 n hd;unfold qs;rw[NW hd]
 by_cases h:n=0
 ·subst h;cases s<;>simp[uD]
 ·rw[if_neg h];have:=Xw0 (Xy0 omK (Nat.gcd_dvd_left n d)) hg;cases s
  ·simp[uD];omega
  ·simp only[uD,if_true];simp;omega
theorem Bz {s:Bool}{n d:Nat}(hd:0<d):qz (wC s n d)<=max (sz n) (sz d):=by
 unfold qz;rw[tV hd,tT hd];have h1:=oQ (Xm1 n (Nat.gcd n d));have h2:=oQ (Xm1 d (Nat.gcd n d));omega
theorem Gl {s:Bool}{n d:Nat}(ln:sz n<=1000000)(ld:sz d<=1000000)(hd0:0<d):Ca E0 ahF [.d (fq s n d)] (.d (qD (wC s n d)),none):=by
 have o1:=Gh;unfold qD qn qd;rw[Bw hd0,tV hd0,tT hd0];unfold sz at ln ld;rcases Qt0 n with rfl|hn0
 ·have e2:d / Nat.gcd 0 d=1:=by rw[Nat.gcd_zero_left];exact Nat.div_self hd0
  rw[e2];refine Ca.bO (n:=60) ?_;rw[av rfl (k187:E0.fn _=_) rfl];simp only[fq,raw,Nat.zero_div,dx,if_true,LD,LL,Qc0];generalize List.map (fun(x:Nat)=>D.v (Value.int IntKind.u32 (x:Int))) (enc d)=ds at*;simp -implicitDefEqProofs[f187]
 ·rw[if_neg omK];have hg:0<Nat.gcd n d:=Xt2 n hd0;have lg:(enc (Nat.gcd n d)).length<=1000000:=Qc2 (bI (Xy0 hd0 (Xv1 n d))) ld;obtain⟨n1,c1⟩:=(Ti n d ln ld).any;have l1:=gp (n:=1) (k:=1) omK;obtain⟨n2,c2⟩:=(yo (enc (Nat.gcd n d)) (enc 1) omK omK (aS _) (aS _)).any;obtain⟨n3,c3⟩:=(Gd n (Nat.gcd n d) hg ln lg).any;obtain⟨n4,c4⟩:=(Gd d (Nat.gcd n d) hg ld lg).any;have ldl:(enc (d / Nat.gcd n d)).length<=1000000:=Qc2 (bI (Xm1 _ _)) ld;obtain⟨n5,c5⟩:=(yo (enc (d / Nat.gcd n d)) (enc 1) omK omK (aS _) (aS _)).any;replace c1:=c1 (n1+n2+n3+n4+n5) omK;replace c2:=c2 (n1+n2+n3+n4+n5) omK;replace c3:=c3 (n1+n2+n3+n4+n5) omK;replace c4:=c4 (n1+n2+n3+n4+n5) omK;replace c5:=c5 (n1+n2+n3+n4+n5) omK;generalize n1+n2+n3+n4+n5=N at*;simp only[aV]at c2 c5;rw[Br]at c2 c5;have k1:=fun m=>Bv m (enc n) (by rw[Ne,dV];omega) omK
  have k2:=fun m=>Bv m (enc d) (by rw[Ne,dV];omega) omK
  have hln:¬ LL (enc n)=[]:=by
   have:¬ n=0:=by omega
   simp[LL,dV,this]
  refine Ca.bO (n:=N+80) ?_;rw[av rfl (k187:E0.fn _=_) rfl]
  by_cases h1:Nat.gcd n d=1
  ·have e1:dO 1 1=0:=by simp[dO]
   rw[h1]at c1 c2 c5 ⊢;rw[Xk0]at c5;rw[Xk0,Xk0];rw[Br]at c1 c2;rw[e1]at c2
   by_cases hd1:d=1
   ·have e2:dO d 1=0:=by rw[hd1];simp[dO]
    rw[e2]at c5;rw[if_pos hd1];simp only[fq,raw,LD]at c1 c2 c5 k1 k2 ⊢;generalize LL (enc n)=ns,LL (enc d)=ds at*;simp only[LL,Qc0];simp -implicitDefEqProofs[f187,o1,c1,c2,c5,k1,k2,hln]
   ·have e2:dO d 1=1:=by unfold dO;rw[if_neg omK,if_neg omK]
    rw[e2]at c5;rw[if_neg hd1];simp only[fq,raw,LD]at c1 c2 c5 k1 k2 ⊢;generalize LL (enc n)=ns,LL (enc d)=ds at*;simp -implicitDefEqProofs[f187,o1,c1,c2,c5,k1,k2,hln]
  ·have e1:dO (Nat.gcd n d) 1=1:=by unfold dO;rw[if_neg omK,if_neg h1]
   rw[e1]at c2;have hdv:Nat.gcd n d ∣ d:=Xv1 n d;generalize Nat.gcd n d=g at*
   by_cases hd1:d / g=1
   ·have e2:dO (d / g) 1=0:=by rw[hd1];simp[dO]
    rw[e2]at c5;rw[if_pos hd1];generalize d / g=dd,n / g=nn,n % g=m1,d % g=m2 at*;simp only[fq,raw,LD]at c1 c2 c3 c4 c5 k1 k2 ⊢;generalize LL (enc n)=ns,LL (enc d)=ds,LL (enc g)=gs at*;generalize LL (enc nn)=q1,LL (enc dd)=q2,LL (enc m1)=x1,LL (enc m2)=x2 at*;simp only[LL,Qc0];simp -implicitDefEqProofs[f187,o1,c1,c2,c3,c4,c5,k1,k2,hln]
   ·have e2:dO (d / g) 1=1:=by
     have:0<d / g:=Xw0 (Xy0 hd0 hdv) hg;unfold dO;rw[if_neg omK,if_neg hd1]
    rw[e2]at c5;rw[if_neg hd1];generalize d / g=dd,n / g=nn,n % g=m1,d % g=m2 at*;simp only[fq,raw,LD]at c1 c2 c3 c4 c5 k1 k2 ⊢;generalize LL (enc n)=ns,LL (enc d)=ds,LL (enc g)=gs at*;generalize LL (enc nn)=q1,LL (enc dd)=q2,LL (enc m1)=x1,LL (enc m2)=x2 at*;simp -implicitDefEqProofs[f187,o1,c1,c2,c3,c4,c5,k1,k2,hln]
abbrev abO:Nat:=186
abbrev ahG:ai:=f186
abbrev ae3:Nat:=232
abbrev ajL:ai:=f232
abbrev ahH:Nat:=114
abbrev akt:ai:=f114
abbrev ahI:Nat:=191
abbrev aku:ai:=f191
theorem yB {a b:Nat}(ha:sz a<=1000000)(hb:sz b<=1000000):Ca E0 SS [.d (LD (enc a)),.d (LD (enc b))] (.d (LD (enc (a*b))),none):=by
 unfold sz at ha hb;have:=IB (enc a) (enc b) omK omK (aS _) (aS _);simpa only[aV] using this
theorem Tm {a b:Nat}(ha:sz a<=1000000)(hb:sz b<=1000000):Ca E0 aaA [.d (LD (enc a)),.d (LD (enc b))] (.d (LD (enc (a+b))),none):=by
 unfold sz at ha hb;have:=XY (enc a) (enc b) omK omK (aS _) (aS _);simpa only[aV] using this
theorem EM {a b:Nat}(ha:sz a<=1000000)(hb:b<=a):Ca E0 SI [.d (LD (enc a)),.d (LD (enc b))] (.d (LD (enc (a-b))),none):=by
 unfold sz at ha;have:=Bg (enc a) (enc b) omK (bI hb) (aS _) (aS _) (by simpa only[aV] using hb);simpa only[aV] using this
theorem Yb {a b:Nat}(ha:sz a<=1000000)(hb:sz b<=1000000):Ca E0 abx [.d (LD (enc a)),.d (LD (enc b))] (.d (.v (.int .i64 (dO a b))),none):=by
 unfold sz at ha hb;have:=yo (enc a) (enc b) omK omK (aS _) (aS _);simpa only[aV] using this
theorem Yc (s:Bool)(n d:Nat):Ca E0 ae3 [.d (fq s n d)] (.d (fq (!s) n d),none):=by
 refine Ca.bO (n:=60) ?_;rw[av rfl (k232:E0.fn _=_) rfl];simp only[fq,LD];generalize LL (enc n)=ns;generalize LL (enc d)=ds;simp -implicitDefEqProofs[f232]
def oU (s1:Bool)(a:Nat)(s2:Bool)(b:Nat):Bool:=if s1=s2 then s1 else if b<=a then s1 else s2
def nO (s1:Bool)(a:Nat)(s2:Bool)(b:Nat):Nat:=if s1=s2 then a+b else if b<=a then a-b else b-a
theorem wE {s1 s2:Bool}{a b:Nat}:sz (nO s1 a s2 b)<=max (sz a) (sz b)+1:=by
 unfold nO;split
 ·exact Lu a b
 ·split
  ·have:=oQ (Nat.sub_le a b);omega
  ·have:=oQ (Nat.sub_le b a);omega
theorem NY (s1 s2:Bool)(a b:Nat):uD (oU s1 a s2 b) (nO s1 a s2 b)=uD s1 a+uD s2 b:=by
 unfold oU nO
 by_cases h:s1=s2
 ·subst h;simp only[if_true];cases s1<;>simp[uD]<;>omega
 ·rw[if_neg h,if_neg h]
  by_cases hab:b<=a
  ·rw[if_pos hab,if_pos hab];cases s1<;>cases s2<;>simp_all[uD]<;>omega
  ·rw[if_neg hab,if_neg hab];cases s1<;>cases s2<;>simp_all[uD]<;>omega
theorem IP (s1 s2:Bool){n1 d1 n2 d2:Nat}(h1:sz n1<=200000)(h2:sz d1<=200000)(h3:sz n2<=200000)(h4:sz d2<=200000) :
  Ca E0 abO [.d (fq s1 n1 d1),.d (fq s2 n2 d2)] (.d (fq (oU s1 (n1*d2) s2 (n2*d1)) (nO s1 (n1*d2) s2 (n2*d1)) (d1*d2)),none):=by
 have b1:=fu n1 d2;have b2:=fu n2 d1;obtain⟨k1,t1⟩:=(yB (a:=n1) (b:=d2) omK omK).any;obtain⟨k2,t2⟩:=(yB (a:=n2) (b:=d1) omK omK).any;obtain⟨k3,t3⟩:=(yB (a:=d1) (b:=d2) omK omK).any;generalize n1*d2=a,n2*d1=b,d1*d2=d at*;obtain⟨k4,t4⟩:=(Tm (a:=a) (b:=b) omK omK).any;obtain⟨k5,t5⟩:=(Yb (a:=a) (b:=b) omK omK).any
 by_cases hs:s1=s2
 ·subst hs;replace t1:=t1 (k1+k2+k3+k4) omK;replace t2:=t2 (k1+k2+k3+k4) omK;replace t3:=t3 (k1+k2+k3+k4) omK;replace t4:=t4 (k1+k2+k3+k4) omK;generalize k1+k2+k3+k4=N at*;refine Ca.bO (n:=N+80) ?_;rw[av rfl (k186:E0.fn _=_) rfl];simp only[fq,oU,nO,if_true,LD]at*;generalize LL (enc n1)=x1,LL (enc n2)=x2,LL (enc d1)=x3,LL (enc d2)=x4,LL (enc (a+b))=x5,LL (enc a)=x6,LL (enc b)=x7 at*;generalize LL (enc d)=x8 at*;simp -implicitDefEqProofs[f186,t1,t2,t3,t4]
 ·have hbq:(s1==s2)=false:=by simpa using hs
  by_cases hab:b<=a
  ·obtain⟨k6,t6⟩:=(EM (a:=a) (b:=b) omK hab).any;replace t1:=t1 (k1+k2+k3+k5+k6) omK;replace t2:=t2 (k1+k2+k3+k5+k6) omK;replace t3:=t3 (k1+k2+k3+k5+k6) omK;replace t5:=t5 (k1+k2+k3+k5+k6) omK;replace t6:=t6 (k1+k2+k3+k5+k6) omK;generalize k1+k2+k3+k5+k6=N at*;have hc:(0:Int)<=dO a b:=by unfold dO;rw[if_neg omK];split<;>omega
   refine Ca.bO (n:=N+80) ?_;rw[av rfl (k186:E0.fn _=_) rfl];simp only[fq,oU,nO,if_neg hs,if_pos hab,LD]at*;generalize dO a b=cc,LL (enc n1)=x1,LL (enc n2)=x2,LL (enc d1)=x3,LL (enc d2)=x4,LL (enc (a-b))=x5,LL (enc a)=x6,LL (enc b)=x7 at*;generalize LL (enc d)=x8 at*;simp -implicitDefEqProofs[f186,t1,t2,t3,t5,t6,hbq,hc]
  ·obtain⟨k6,t6⟩:=(EM (a:=b) (b:=a) omK omK).any;replace t1:=t1 (k1+k2+k3+k5+k6) omK;replace t2:=t2 (k1+k2+k3+k5+k6) omK;replace t3:=t3 (k1+k2+k3+k5+k6) omK;replace t5:=t5 (k1+k2+k3+k5+k6) omK;replace t6:=t6 (k1+k2+k3+k5+k6) omK;generalize k1+k2+k3+k5+k6=N at*;have hc:dO a b=-1:=by unfold dO;rw[if_pos omK]
   rw[hc]at t5;refine Ca.bO (n:=N+80) ?_;rw[av rfl (k186:E0.fn _=_) rfl];simp only[fq,oU,nO,if_neg hs,if_neg hab,LD]at*;generalize LL (enc n1)=x1,LL (enc n2)=x2,LL (enc d1)=x3,LL (enc d2)=x4,LL (enc (b-a))=x5,LL (enc a)=x6,LL (enc b)=x7 at*;generalize LL (enc d)=x8 at*;simp -implicitDefEqProofs[f186,t1,t2,t3,t5,t6,hbq]
theorem ny (x:Rat):uD (qs x) x.num.natAbs=x.num:=by
 unfold uD qs
 by_cases h:x.num<0
 ·rw[if_pos (by simpa using h)];omega
 ·rw[if_neg (by simpa using h)];omega
theorem NZ (s1 s2:Bool)(a b:Nat):uD (s1 != s2) (a*b)=uD s1 a*uD s2 b:=by
 cases s1<;>cases s2<;>simp[uD,Int.neg_mul,Int.mul_neg]
theorem den_pos (x:Rat):0<x.den:=Nat.pos_of_ne_zero x.den_nz
theorem N_ (x y:Rat):wC (qs x != qs y) (x.num.natAbs*y.num.natAbs) (x.den*y.den)=x*y:=by
 unfold wC;rw[NZ,ny,ny,Rat.mul_def']
theorem Gm (x y:Rat):wC (oU (qs x) (x.num.natAbs*y.den) (qs y) (y.num.natAbs*x.den)) (nO (qs x) (x.num.natAbs*y.den) (qs y) (y.num.natAbs*x.den)) (x.den*y.den)=x+y:=by
 unfold wC;rw[NY,Rat.add_def']
 congr 1
 have h:=fun(s:Bool) (a b:Nat)=>show uD s (a*b)=uD s a*(b:Int) by cases s<;>simp[uD,Int.neg_mul]
 rw[h,h,ny,ny]
theorem Oa (x y:Rat):wC (oU (qs x) (x.num.natAbs*y.den) (!qs y) (y.num.natAbs*x.den)) (nO (qs x) (x.num.natAbs*y.den) (!qs y) (y.num.natAbs*x.den)) (x.den*y.den)=x-y:=by
 unfold wC;rw[NY,Rat.sub_def']
 congr 1
 have h:=fun(s:Bool) (a b:Nat)=>show uD s (a*b)=uD s a*(b:Int) by cases s<;>simp[uD,Int.neg_mul]
 have h2:=fun(s:Bool) (a:Nat)=>show uD (!s) a=- uD s a by cases s<;>simp[uD]
 rw[h,h,h2,ny,ny,Int.neg_mul];omega
theorem BA (x y:Rat):qz (x*y)<=qz x+qz y:=by
 rw[<-N_];refine Qc2 (Bz (Xd0 (den_pos x) (den_pos y))) ?_;have h1:=fu x.num.natAbs y.num.natAbs;have h2:=fu x.den y.den;unfold qz;omega
theorem oV (x y:Rat):qz (x+y)<=qz x+qz y+1:=by
 rw[<-Gm];refine Qc2 (Bz (Xd0 (den_pos x) (den_pos y))) ?_;have h1:=fu x.num.natAbs y.den;have h2:=fu y.num.natAbs x.den;have h3:=fu x.den y.den;have h4:=@wE (qs x) (qs y) (x.num.natAbs*y.den) (y.num.natAbs*x.den);unfold qz;omega
theorem Tn (x y:Rat):qz (x-y)<=qz x+qz y+1:=by
 rw[<-Oa];refine Qc2 (Bz (Xd0 (den_pos x) (den_pos y))) ?_;have h1:=fu x.num.natAbs y.den;have h2:=fu y.num.natAbs x.den;have h3:=fu x.den y.den;have h4:=@wE (qs x) (!qs y) (x.num.natAbs*y.den) (y.num.natAbs*x.den);unfold qz;omega
theorem Gn (x y:Rat)(hx:qz x<=100000)(hy:qz y<=100000):Ca E0 ahH [.d (qD x),.d (qD y)] (.d (qD (x+y)),none):=by
 obtain⟨k1,t1⟩:=(Bu x omK).any;obtain⟨k2,t2⟩:=(Bu y omK).any;have hx1:sz x.num.natAbs<=100000:=Qc2 (Q11 _ _) hx;have hx2:sz x.den<=100000:=Qc2 (Q00 _ _) hx;have hy1:sz y.num.natAbs<=100000:=Qc2 (Q11 _ _) hy;have hy2:sz y.den<=100000:=Qc2 (Q00 _ _) hy;have b1:=fu x.num.natAbs y.den;have b2:=fu y.num.natAbs x.den;have b3:=fu x.den y.den;have b4:=@wE (qs x) (qs y) (x.num.natAbs*y.den) (y.num.natAbs*x.den);obtain⟨k3,t3⟩:=(IP (qs x) (qs y) (n1:=x.num.natAbs) (d1:=x.den) (n2:=y.num.natAbs) (d2:=y.den) omK omK omK omK).any;obtain⟨k5,t5⟩:=(Gl (s:=oU (qs x) (x.num.natAbs*y.den) (qs y) (y.num.natAbs*x.den)) (n:=nO (qs x) (x.num.natAbs*y.den) (qs y) (y.num.natAbs*x.den)) (d:=x.den*y.den) omK omK (Xd0 (den_pos x) (den_pos y))).any;rw[Gm]at t5;replace t1:=t1 (k1+k2+k3+k5) omK;replace t2:=t2 (k1+k2+k3+k5) omK;replace t3:=t3 (k1+k2+k3+k5) omK;replace t5:=t5 (k1+k2+k3+k5) omK;generalize k1+k2+k3+k5=N,nO (qs x) (x.num.natAbs*y.den) (qs y) (y.num.natAbs*x.den)=n,oU (qs x) (x.num.natAbs*y.den) (qs y) (y.num.natAbs*x.den)=ss,x.den*y.den=d at*;refine Ca.bO (n:=N+80) ?_;rw[av rfl (k114:E0.fn _=_) rfl];simp only[fqR,fq,qD,raw,LD]at*;generalize qs x=s1,qs y=s2,LL (enc x.num.natAbs)=x1,LL (enc y.num.natAbs)=x2,LL (enc x.den)=x3,LL (enc y.den)=x4,LL (qn x)=z1,LL (qn y)=z2,LL (qd x)=z3,LL (qd y)=z4,LL (enc n)=x7,LL (enc d)=x8,LL (qn (x+y))=x9,LL (qd (x+y))=y1,qs (x+y)=sg at*;simp -implicitDefEqProofs[f114,t1,t2,t3,t5]
theorem Yd (x y:Rat)(hx:qz x<=100000)(hy:qz y<=100000):Ca E0 ahI [.d (qD x),.d (qD y)] (.d (qD (x-y)),none):=by
 obtain⟨k1,t1⟩:=(Bu x omK).any;obtain⟨k2,t2⟩:=(Bu y omK).any;have hx1:sz x.num.natAbs<=100000:=Qc2 (Q11 _ _) hx;have hx2:sz x.den<=100000:=Qc2 (Q00 _ _) hx;have hy1:sz y.num.natAbs<=100000:=Qc2 (Q11 _ _) hy;have hy2:sz y.den<=100000:=Qc2 (Q00 _ _) hy;have b1:=fu x.num.natAbs y.den;have b2:=fu y.num.natAbs x.den;have b3:=fu x.den y.den;have b4:=@wE (qs x) (!qs y) (x.num.natAbs*y.den) (y.num.natAbs*x.den);obtain⟨k3,t3⟩:=(IP (qs x) (!qs y) (n1:=x.num.natAbs) (d1:=x.den) (n2:=y.num.natAbs) (d2:=y.den) omK omK omK omK).any;obtain⟨k4,t4⟩:=(Yc (qs y) y.num.natAbs y.den).any;obtain⟨k5,t5⟩:=(Gl (s:=oU (qs x) (x.num.natAbs*y.den) (!qs y) (y.num.natAbs*x.den)) (n:=nO (qs x) (x.num.natAbs*y.den) (!qs y) (y.num.natAbs*x.den)) (d:=x.den*y.den) omK omK (Xd0 (den_pos x) (den_pos y))).any;rw[Oa]at t5;replace t1:=t1 (k1+k2+k3+k4+k5) omK;replace t2:=t2 (k1+k2+k3+k4+k5) omK;replace t3:=t3 (k1+k2+k3+k4+k5) omK;replace t4:=t4 (k1+k2+k3+k4+k5) omK;replace t5:=t5 (k1+k2+k3+k4+k5) omK;generalize k1+k2+k3+k4+k5=N,nO (qs x) (x.num.natAbs*y.den) (!qs y) (y.num.natAbs*x.den)=n,oU (qs x) (x.num.natAbs*y.den) (!qs y) (y.num.natAbs*x.den)=ss,x.den*y.den=d at*;refine Ca.bO (n:=N+80) ?_;rw[av rfl (k191:E0.fn _=_) rfl];simp only[fqR,fq,qD,raw,LD]at*;generalize (!qs y)=s3,qs x=s1 at*;generalize qs y=s2,LL (enc x.num.natAbs)=x1,LL (enc y.num.natAbs)=x2,LL (enc x.den)=x3,LL (enc y.den)=x4,LL (qn x)=z1,LL (qn y)=z2,LL (qd x)=z3,LL (qd y)=z4,LL (enc n)=x7,LL (enc d)=x8,LL (qn (x-y))=x9,LL (qd (x-y))=y1,qs (x-y)=sg at*;simp -implicitDefEqProofs[f191,t1,t2,t3,t4,t5]
theorem wF (x:Rat)(hx:qz x<=1000000):Ca E0 134 [.d (qD x)] (.d (.v (.int .i64 x.num.sign)),none):=by
 obtain⟨N,t⟩:=(Bu x hx).get;refine Ca.bO (n:=N+60) ?_;rw[av rfl (k134:E0.fn _=_) rfl];simp only[fqR,fq,qD,raw,LD]at*;have hq:enc x.num.natAbs=qn x:=rfl;rw[hq]at t;have hs:(LL (qn x)=[]/\x.num.sign=0)\/(LL (qn x)≠[]/\qs x=true/\x.num.sign=-1)\/(LL (qn x)≠[]/\qs x=false/\x.num.sign=1):=by
  have hnil:LL (qn x)=[]↔x.num.natAbs=0:=by simp only[LL,Xr2];exact dV
  rw[Ne,hnil];rcases Q81 x.num 0 with h|h|h
  ·exact .inr (.inl ⟨by omega,decide_eq_true h,Q10 h⟩)
  ·exact .inl ⟨by omega,by rw[h];rfl⟩
  ·exact .inr (.inr ⟨by omega,decide_eq_false omK,Q80 h⟩)
 generalize LL (qn x)=z1,LL (qd x)=z3,LL (enc x.den)=x3,qs x=s at*;rcases hs with ⟨a,b⟩|⟨a,b,c⟩|⟨a,b,c⟩
 ·rw[b];subst a;simp -implicitDefEqProofs[f134,t]
 ·rw[c];subst b;simp -implicitDefEqProofs[f134,t,a]
 ·rw[c];subst b;simp -implicitDefEqProofs[f134,t,a]
theorem zz (x y:Rat)(hx:qz x<=100000)(hy:qz y<=100000):Ca E0 135 [.d (qD x),.d (qD y)] (.d (.v (.int .i64 (x-y).num.sign)),none):=by
 obtain⟨k1,t1⟩:=(Yd x y hx hy).any;have:=Tn x y;obtain⟨k2,t2⟩:=(wF (x-y) omK).any;replace t1:=t1 (k1+k2) omK;replace t2:=t2 (k1+k2) omK;generalize k1+k2=N at*;refine Ca.bO (n:=N+80) ?_;rw[av rfl (k135:E0.fn _=_) rfl];generalize (x-y).num.sign=res at*;simp only[qD,raw,LD]at*;generalize LL (qn x)=z1,LL (qn y)=z2,LL (qd x)=z3,LL (qd y)=z4,LL (qn (x-y))=x9,LL (qd (x-y))=y1 at*;simp -implicitDefEqProofs[f135,t1,t2]
theorem IQ (x:Rat):wC (qs x) x.num.natAbs x.den=x:=by
 unfold wC;rw[ny,Rat.mkRat_self]
theorem Ye (x y:Rat)(hy:y≠0):wC (qs x != qs y) (x.num.natAbs*y.den) (x.den*y.num.natAbs)=x / y:=by
 have hyn:y.num≠0:=fun h=>hy (Rat.num_eq_zero.1 h)
 have e1:uD (qs x != qs y) (x.num.natAbs*y.den)=x.num*(y.den*y.num.sign):=by
  have h:=NZ (qs x) (qs y) x.num.natAbs y.den;rw[h,ny]
  congr 1
  rcases Q81 y.num 0 with h|h|h
  ·rw[show qs y=true from decide_eq_true h,Q10 h];simp[uD]
  ·exact absurd h hyn
  ·rw[show qs y=false from decide_eq_false omK,Q80 h];simp[uD]
 have e2:((x.den*y.num.natAbs:Nat):Int)=x.den*(y.num*y.num.sign):=by
  rw[Int.mul_sign_self];simp
 have hs:((y.num.sign:Int):Rat)≠0:=by
  intro e;have:y.num.sign=0:=by exact_mod_cast e
  exact hyn (Q90.1 this)
 have hxd:((x.den:Int):Rat)≠0:=by have:=x.den_nz;exact_mod_cast this
 have hyd:((y.den:Int):Rat)≠0:=by have:=y.den_nz;exact_mod_cast this
 have akv:((y.num:Int):Rat)≠0:=by exact_mod_cast hyn
 have hx:x=(x.num:Rat) / ((x.den:Int):Rat):=by
  conv=>lhs;rw[<-Rat.mkRat_self x,Rat.mkRat_eq_div]
  rfl
 have hy':y=(y.num:Rat) / ((y.den:Int):Rat):=by
  conv=>lhs;rw[<-Rat.mkRat_self y,Rat.mkRat_eq_div]
  rfl
 unfold wC;rw[Rat.mkRat_eq_div,e1];have e3:(((x.den*y.num.natAbs:Nat)):Rat)=((x.den*(y.num*y.num.sign):Int):Rat):=by rw[<-e2];rfl
 rw[e3];simp only[Rat.intCast_mul]
 conv=>rhs;rw[hx,hy']
 generalize ((y.num.sign:Int):Rat)=a,((x.den:Int):Rat)=b,((y.den:Int):Rat)=c,((y.num:Int):Rat)=d,((x.num:Int):Rat)=e at*;grind
theorem abP (x:Rat):qz (-x)=qz x:=by simp[qz]
theorem Ob {n:Nat}(h:n<18446744073709551616):trim [n % 4294967296,n / 4294967296]=enc n:=by
 rw[df (by intro y hy;simp at hy;omega)]
 congr 1
 simp[val];omega
theorem IU (v:Int)(hv:-9223372036854775808<=v/\v<9223372036854775808):Ca E0 227 [.d (.v (.int .i64 v))] (.d (.t [.v (.bool (decide (v<0))),LD (enc v.natAbs)]),none):=by
 obtain⟨n0,hc⟩:=(iC [v.natAbs % 4294967296,v.natAbs / 4294967296] (by simp)).get;rw[Ob omK]at hc;have hn:v.natAbs<18446744073709551616:=by omega
 refine Ca.bO (n:=n0+60) ?_;rw[av rfl (k227:E0.fn _=_) rfl];have w2:ah .u32 (v.natAbs:Int)=((v.natAbs % 4294967296:Nat):Int):=by rw[dH];omega
 have w3:Int.fdiv (v.natAbs:Int) 4294967296=((v.natAbs / 4294967296:Nat):Int):=by
  rw[Qm1 _ omK];omega
 have w4:ah .u32 ((v.natAbs / 4294967296:Nat):Int)=((v.natAbs / 4294967296:Nat):Int):=wrap_u32 omK;have hl:(LL (enc v.natAbs))=LL (enc v.natAbs):=rfl;simp only[LD,LL,Qd2,Qc0]at hc ⊢;generalize List.map (fun(x:Nat)=>D.v (Value.int IntKind.u32 (x:Int))) (enc v.natAbs)=res at*
 by_cases h:v<0
 ·have w1:ah .u64 v=v+18446744073709551616:=by rw[f_];omega
  have w5:IntKind.wrap .u64 (-(v+18446744073709551616))=(v.natAbs:Int):=by rw[<-cK,f_];omega
  have hd:decide (v<0)=true:=decide_eq_true h;rw[hd];generalize v.natAbs / 4294967296=hi,v.natAbs % 4294967296=lo at*;generalize v.natAbs=va at*;simp -implicitDefEqProofs[IntKind.bits,f227,uC,h,w1,w2,w3,w4,w5,hc]
 ·have w1:ah .u64 v=(v.natAbs:Int):=by rw[f_];omega
  have hd:decide (v<0)=false:=decide_eq_false h;rw[hd];generalize v.natAbs / 4294967296=hi,v.natAbs % 4294967296=lo at*;generalize v.natAbs=va at*;simp -implicitDefEqProofs[IntKind.bits,f227,uC,h,w1,w2,w3,w4,hc]
def rq (a b:Int):Rat:=wC (decide (a<0) != decide (b<0)) a.natAbs b.natAbs
theorem Gp {v:Int}(hv:-9223372036854775808<=v/\v<9223372036854775808):sz v.natAbs<=2:=uL (k:=2) (by
 have:(4294967296:Nat) ^ 2=18446744073709551616:=by rfl
 omega)
theorem Yf (a b:Int)(ha:-9223372036854775808<=a/\a<9223372036854775808)(hb:-9223372036854775808<=b/\b<9223372036854775808)(h0:b≠0) :
  Ca E0 184 [.d (.v (.int .i64 a)),.d (.v (.int .i64 b))] (.d (.t [qD (rq a b),.v (.int .i64 0)]),none):=by
 have l1:=Gp ha;have l2:=Gp hb;obtain⟨Kq,_,t1,t2,t3⟩:=((IU a ha).j ((IU b hb).j ((Gl (s:=decide (a<0) != decide (b<0)) (n:=a.natAbs) (d:=b.natAbs) omK omK omK).any))).at 0;have e:wC (decide (a<0) != decide (b<0)) a.natAbs b.natAbs=rq a b:=rfl;rw[e]at t3;generalize Kq=N at*;refine Ca.bO (n:=N+80) ?_;rw[av rfl (k184:E0.fn _=_) rfl];have hb0:(b==0)=false:=by simpa using h0
 simp only[fq,qD,raw,LD]at*;generalize LL (qn (rq a b))=x9,LL (qd (rq a b))=y1,qs (rq a b)=sg,LL (enc a.natAbs)=x1,LL (enc b.natAbs)=x2,decide (a<0)=s1,decide (b<0)=s2 at*;simp only[bne]at t3;simp -implicitDefEqProofs[f184,uC,t1,t2,t3,hb0]
theorem Tp (a b:Int)(h0:b≠0):rq a b=(a:Rat) / (b:Rat):=by
 have h:∀ v:Int,qs ((v:Int):Rat)=decide (v<0)/\((v:Int):Rat).num=v/\((v:Int):Rat).den=1:=fun v=>⟨by unfold qs;rfl,rfl,rfl⟩
 have hb:((b:Int):Rat)≠0:=by exact_mod_cast h0
 rw[<-Ye _ _ hb,(h a).1,(h b).1,(h a).2.1,(h a).2.2,(h b).2.1,(h b).2.2];simp[rq]
end Fi.S
