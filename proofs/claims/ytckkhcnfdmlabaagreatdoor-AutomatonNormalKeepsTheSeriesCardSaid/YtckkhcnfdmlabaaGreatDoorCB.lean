import Derived.Test.YtckkhcnfdmlabaaGreatDoorCA
set_option linter.unusedVariables false
set_option linter.unusedSimpArgs false
noncomputable section
namespace Fi.S
open Go Fi
set_option maxHeartbeats 8000000
theorem zO {n k:Nat}(h1:4294967296 ^ k<=n)(h2:n<4294967296 ^ (k+1)):(enc n).length=k+1:=by
 have a:=fO h2;rcases Nat.lt_or_ge k (enc n).length with h|h
 ·omega
 ·exfalso;have h3:=nC (aQ n);rw[aT]at h3;have h4:=Nat.pow_le_pow_right (n:=4294967296) (by omega) h;omega
theorem Au {u:Nat}(h:0<u):enc u=u % 4294967296::enc (u / 4294967296):=by
 rw[enc,if_neg (by omega)]
theorem vg (n:Nat):∀ (u:Nat),bE (enc u) n=u / 4294967296 ^ n % 4294967296:=by
 induction n with
 | zero =>
  intro u;rcases Nat.eq_zero_or_pos u with rfl|h
  ·simp[dn,bE]
  ·rw[Au h];simp[bE]
 | succ n ih =>
  intro u;rcases Nat.eq_zero_or_pos u with rfl|h
  ·simp[dn,bE]
  ·have:bE (enc u) (n+1)=bE (enc (u / 4294967296)) n:=by rw[Au h];simp[bE]
   rw[this,ih,Nat.div_div_eq_div_mul,Nat.pow_succ,Nat.mul_comm]
theorem WA (k:Nat):∀ {y:Nat},4294967296 ^ k<=y->y<4294967296 ^ (k+1)->∃ lo,enc y=lo++[y / 4294967296 ^ k]/\lo.length=k:=by
 induction k with
 | zero =>
  intro y h1 h2;simp at h1 h2;refine⟨[],?_,rfl⟩;rw[jf (by omega) (by omega)];simp
 | succ k ih =>
  intro y h1 h2;have hp:0<4294967296 ^ (k+1):=Nat.pow_pos (by omega);obtain⟨lo,e,hl⟩:=ih (y:=y / 4294967296) (by rw[Nat.le_div_iff_mul_le (by omega),<-Nat.pow_succ];exact h1) (by rw[Nat.div_lt_iff_lt_mul (by omega),<-Nat.pow_succ];exact h2);refine⟨y % 4294967296::lo,?_,by simp[hl]⟩;rw[Au (by omega),e,Nat.div_div_eq_div_mul,Nat.pow_succ,Nat.mul_comm (4294967296 ^ k)];rfl
theorem Hl {x:Nat}(h:0<x):2 ^ (fP x-1)<=x/\x<2 ^ fP x:=by
 unfold fP;rw[if_neg (by omega)];exact⟨Nat.log2_self_le (by omega),Nat.lt_log2_self⟩
theorem Rz {y k:Nat}(h1:4294967296 ^ k<=y)(h2:y<4294967296 ^ (k+1)) :
  y*2 ^ (32-fP (y / 4294967296 ^ k))<4294967296 ^ (k+1)/\4294967296 ^ k<=y*2 ^ (32-fP (y / 4294967296 ^ k)):=by
 have hp:0<4294967296 ^ k:=Nat.pow_pos (by omega);have ht0:0<y / 4294967296 ^ k:=Nat.div_pos h1 hp;have ht1:y / 4294967296 ^ k<4294967296:=by rw[Nat.div_lt_iff_lt_mul hp,Nat.mul_comm,<-Nat.pow_succ];exact h2
 have hb:=Hl ht0;have hb2:=zN ht1;have hy:y<(y / 4294967296 ^ k+1)*4294967296 ^ k:=by
  have:=Nat.lt_mul_div_succ y hp;rw[Nat.mul_comm];exact this
 generalize y / 4294967296 ^ k=t at*;have hq:2 ^ fP t*2 ^ (32-fP t)=4294967296:=by rw[<-Nat.pow_add,show fP t+(32-fP t)=32 by omega]
 have hr:0<2 ^ (32-fP t):=Nat.pow_pos (by omega);generalize 2 ^ (32-fP t)=r,2 ^ fP t=s at*;constructor
 ·rw[Nat.pow_succ]
  calc y*r<(t+1)*4294967296 ^ k*r:=Nat.mul_lt_mul_of_pos_right hy hr
   _<=s*4294967296 ^ k*r:=Nat.mul_le_mul_right _ (Nat.mul_le_mul_right _ hb.2)
   _=4294967296 ^ k*4294967296:=by rw[Nat.mul_right_comm,hq,Nat.mul_comm]
 ·exact Nat.le_trans h1 (Nat.le_mul_of_pos_right _ hr)
theorem RA {u v k j:Nat}(hv:4294967296 ^ k<=v)(hu:u<v*4294967296 ^ j*4294967296) :
  u / (v*4294967296 ^ j)<=min (u / 4294967296 ^ (j+k) / (v / 4294967296 ^ k)) 4294967295:=by
 have hp:0<4294967296 ^ k:=Nat.pow_pos (by omega);have hp2:0<4294967296 ^ j:=Nat.pow_pos (by omega);have hvt:0<v / 4294967296 ^ k:=Nat.div_pos hv hp;have hw:0<v*4294967296 ^ j:=Nat.mul_pos (by omega) hp2;have h1:u / (v*4294967296 ^ j)<4294967296:=by rw[Nat.div_lt_iff_lt_mul hw,Nat.mul_comm];exact hu
 have h2:=Nat.div_mul_le_self u (v*4294967296 ^ j);have h3:=Nat.div_mul_le_self v (4294967296 ^ k);have:u / (v*4294967296 ^ j)<=u / 4294967296 ^ (j+k) / (v / 4294967296 ^ k):=by
  rw[Nat.le_div_iff_mul_le hvt,Nat.le_div_iff_mul_le (Nat.pow_pos (by omega))];generalize u / (v*4294967296 ^ j)=d,v / 4294967296 ^ k=t at*;rw[Nat.pow_add];generalize 4294967296 ^ k=K,4294967296 ^ j=J at*
  calc d*t*(J*K)=d*(t*K*J):=by grind
   _<=d*(v*J):=Nat.mul_le_mul_left _ (Nat.mul_le_mul_right _ h3)
   _<=u:=h2
 omega
theorem Ot {u n:Nat}(h:u<4294967296 ^ (n+2)):bE (enc u) (n+1)*4294967296+bE (enc u) n=u / 4294967296 ^ n/\bE (enc u) (n+1)<4294967296/\bE (enc u) n<4294967296:=by
 rw[vg,vg];have hp:0<4294967296 ^ n:=Nat.pow_pos (by omega);have h1:u / 4294967296 ^ (n+1)=u / 4294967296 ^ n / 4294967296:=by rw[Nat.div_div_eq_div_mul,Nat.pow_succ]
 have h2:u / 4294967296 ^ n<4294967296*4294967296:=by
  rw[Nat.div_lt_iff_lt_mul hp];rw[Nat.pow_add]at h;have e:(4294967296:Nat) ^ 2=4294967296*4294967296:=by rfl
  rw[e,Nat.mul_comm]at h;exact h
 rw[h1];generalize u / 4294967296 ^ n=t at*;have h3:t / 4294967296<4294967296:=by omega
 omega
theorem RB {u w X Q B:Nat}(hB:X=Q*B*w+u):X=(u / w+B*Q)*w+u % w:=by
 have:=Nat.div_add_mod u w;rw[Nat.add_mul,Nat.mul_comm B Q,Nat.mul_comm (u / w) w];omega
end Fi.S
namespace Fi.S
open Go Fi
set_option maxHeartbeats 8000000
def zA:aH:=yH.body.r.r.r.r.r.l.r.bl.lp
def oiB:aH:=zA.r.l.bl.r.r.r.l.bl.lp
def WB (up u v:Nat)(es:List D)(L j g p:Nat)(t:FV):St:=(st0 [.u,.u,.ls (.loc 0) 0 1 0 L,.u,.u,.u,.d (.v (.int .i64 up)),.d (LD (enc u)),.d (LD (enc v)),.d (.v (.int .i64 j)),.u,.d (.v (.int .u64 g)),.d (LD (enc p)),.u,.u,t] [.row 0 1 es])
theorem Kl (up u v L j d:Nat)(es:List D)(hv:0<v)(hj:j<=100000000)(lu:(enc u).length<=100000000)(lv:(enc v).length<=100000000)(lw:(enc (v*4294967296 ^ j*4294967295)).length<=100000000)
  (hd:d=u / (v*4294967296 ^ j)) (g:Nat) (hg:d<=g) (hg2:g<=4294967295) :
  Ex E0 (.loop oiB) (WB up u v es L j g (v*4294967296 ^ j*g) .u) (.exit 2,WB up u v es L j d (v*4294967296 ^ j*d) (.d (.v (.bool false)))):=by
 have hw:0<v*4294967296 ^ j:=Nat.mul_pos hv (Nat.pow_pos (by omega));have hl:=zL (enc v) (32*j) (by omega) lv (aQ _);rw[aT,Nat.pow_mul,show(2:Nat) ^ 32=4294967296 by rfl]at hl;generalize v*4294967296 ^ j=w at*;have key:=Ex.inv (E:=E0) (b:=oiB) (S:=fun g=>WB up u v es L j g (w*g) .u) (fun g=>g) (fun g=>d<=g/\g<=4294967295) (fun r=>r=(.exit 2,WB up u v es L j d (w*d) (.d (.v (.bool false))))) ?_ g ⟨hg,hg2⟩
 ·obtain⟨r,hr,rfl⟩:=key;exact hr
 ·clear hg hg2 g;rintro g ⟨h1,h2⟩;have lp:(enc (w*g)).length<=100000000:=Nat.le_trans (bI (Nat.mul_le_mul_left w h2)) lw;obtain⟨n1,hc⟩:=(xx (enc u) (enc (w*g)) (by omega) (by omega) (aQ _) (aQ _)).any;rw[aT,aT]at hc
  by_cases hlt:d<g
  ·have hu:u<w*g:=by rw[hd,Nat.div_lt_iff_lt_mul hw,Nat.mul_comm]at hlt;exact hlt
   have hc1:dL u (w*g)=-1:=by unfold dL;rw[if_pos hu]
   rw[hc1]at hc;have hle:w<=w*g:=Nat.le_mul_of_pos_right w (by omega);obtain⟨n2,hl⟩:=hl.any;obtain⟨n3,hm⟩:=(Aj (enc (w*g)) (enc w) (by omega) (bI hle) (aQ _) (aQ _) (by rw[aT,aT];exact hle)).any;have hsub:w*g-w=w*(g-1):=by rw[Nat.mul_sub,Nat.mul_one]
   rw[aT,aT,hsub]at hm;replace hc:=hc (n1+n2+n3) (by omega);replace hl:=hl (n1+n2+n3) (by omega);replace hm:=hm (n1+n2+n3) (by omega);generalize n1+n2+n3=N at*;refine .inl ⟨g-1,Ex.of (n:=N+60) ?_,by omega,by omega,by omega⟩;have w1:ah .u64 ((g:Int)-1)=((g-1:Nat):Int):=by rw[wrap_u64 (by omega)];omega
   have w2:ah .i64 (32*(j:Int))=((32*j:Nat):Int):=by rw[wrap_i64 (by omega)];omega
   clear hc1 hsub lp lw hd;unfold WB;simp only[LD]at hc hl hm ⊢;generalize LL (enc u)=us,LL (enc v)=vs,LL (enc w)=ws,LL (enc (w*g))=ps,LL (enc (w*(g-1)))=ps' at*;generalize g-1=g',32*j=j32 at*;simp -implicitDefEqProofs[zA,oiB,f226,hc,hl,hm,w1,w2]
  ·have hu:¬ u<w*g:=by rw[hd,Nat.div_lt_iff_lt_mul hw,Nat.mul_comm]at hlt;exact hlt
   have hg:g=d:=by omega
   have hc1:(dL u (w*g):Int)=0\/dL u (w*g)=1:=by unfold dL;rw[if_neg hu];split<;>simp
   replace hc:=hc n1 (by omega);refine .inr ⟨_,Ex.of (n:=n1+60) ?_,by simp,rfl⟩;rw[<-hg];clear lp lw hd hg;unfold WB;simp only[LD]at hc ⊢;generalize LL (enc u)=us,LL (enc v)=vs,LL (enc (w*g))=ps at*;rcases hc1 with e|e<;>rw[e]at hc<;>simp -implicitDefEqProofs[zA,oiB,f226,hc]
def Av (up u v:Nat)(es:List D)(L:Nat)(k:Int)(t:FV):St:=(st0 [.u,.u,.ls (.loc 0) 0 1 0 L,.u,.u,.u,.d (.v (.int .i64 up)),.d (LD (enc u)),.d (LD (enc v)),.d (.v (.int .i64 k)),.u,.u,.u,.u,t,.u] [.row 0 1 es])
theorem Km (up u v k L j:Nat)(es:List D)(hv:4294967296 ^ k<=v)(hv2:v<4294967296 ^ (k+1))(hj:j<=100000000)(hk:k<=100000000)(lu:(enc u).length<=100000000)(hu:u<4294967296 ^ (j+k+2)) :
  Ex E0 zA.r.l.bl.r.l {Av up u v es L j .u with vars:=[.u,.u,.ls (.loc 0) 0 1 0 L,.u,.u,.u,.d (.v (.int .i64 up)),.d (LD (enc u)),.d (LD (enc v)),.d (.v (.int .i64 j)),.d (.v (.int .i64 ((j+k+1:Nat):Int))),.u,.u,.u,.u,.u]}
   (.norm,{Av up u v es L j .u with vars:=[.u,.u,.ls (.loc 0) 0 1 0 L,.u,.u,.u,.d (.v (.int .i64 up)),.d (LD (enc u)),.d (LD (enc v)),.d (.v (.int .i64 j)),.u,.d (.v (.int .u64 ((min (u / 4294967296 ^ (j+k) / (v / 4294967296 ^ k)) 4294967295:Nat):Int))),.u,.u,.u,.u]}):=by
 have lv:(LL (enc v)).length=k+1:=by simp[LL,zO hv hv2]
 have lv':=zO hv hv2;obtain⟨e1,b1,b2⟩:=Ot hu;have e3:bE (enc v) k=v / 4294967296 ^ k:=by
  rw[vg,Nat.mod_eq_of_lt];rw[Nat.div_lt_iff_lt_mul (Nat.pow_pos (by omega)),Nat.mul_comm,<-Nat.pow_succ];exact hv2
 have b3:v / 4294967296 ^ k<4294967296:=by rw[<-e3,vg];exact Nat.mod_lt _ (by omega)
 have b4:0<v / 4294967296 ^ k:=Nat.div_pos hv (Nat.pow_pos (by omega));have h1:=fun m=>jT m (enc u) (by omega) (j+k+1) (by omega) (aQ _)
 have h2:=fun m=>jT m (enc u) (by omega) (j+k) (by omega) (aQ _)
 have h3:=fun m=>jT m (enc v) (by omega) k (by omega) (aQ _)
 rw[e3]at h3;rw[<-e1];generalize bE (enc u) (j+k+1)=x1 at*;generalize bE (enc u) (j+k)=x0,v / 4294967296 ^ k=vt at*;have w1:=Rn b1;have w2:=Al b1 b2;obtain⟨P,hP⟩:∃ P:Nat,(P:Int)=(x1:Int)*4294967296:=⟨x1*4294967296,by omega⟩
 obtain⟨T,hT⟩:∃ T:Nat,T=x1*4294967296+x0:=⟨_,rfl⟩
 rw[<-hP]at w1 w2;rw[show(P:Int)+(x0:Int)=(T:Int) by omega]at w2;rw[<-hT];have w5:Int.tdiv (T:Int) (vt:Int)=((T / vt:Nat):Int):=by rw[Int.tdiv_eq_ediv_of_nonneg (by omega),Int.natCast_ediv]
 have hq:T / vt<18446744073709551616:=Nat.lt_of_le_of_lt (Nat.div_le_self _ _) (by omega);generalize T / vt=Q at*;have w6:ah .u64 (Q:Int)=(Q:Int):=wrap_u64 (by omega);have w7:ah .i64 (((j+k+1:Nat):Int)-1)=((j+k:Nat):Int):=by rw[wrap_i64 (by omega)];omega
 have w8:ah .i64 (((k+1:Nat):Int)-1)=(k:Int):=by rw[wrap_i64 (by omega)];omega
 have hd0:¬ ((vt:Int)=0):=by omega
 have Ws:¬ vt=0:=by omega
 clear hP hT e1 e3 hu hv hv2;obtain⟨G,hG⟩:∃ G:Nat,G=min Q 4294967295:=⟨_,rfl⟩
 rw[<-hG];have hmin:((4294967295:Int)<(Q:Int)/\(G:Int)=4294967295)\/(¬ (4294967295:Int)<(Q:Int)/\(Q:Int)=(G:Int)):=by omega
 clear hG;refine Ex.of (n:=90) ?_;unfold Av;simp only[LD]at h1 h2 h3 ⊢;generalize LL (enc u)=us,LL (enc v)=vs,j+k+1=n at*;generalize j+k=n1,k+1=m at*;rcases hmin with ⟨a,b⟩|⟨a,b⟩
 ·simp -implicitDefEqProofs[zA,f226,lv,h1,h2,h3,w1,w2,w5,w6,w7,w8,hd0,Ws,a,b]
 ·rw[b]at a w5 w6;simp -implicitDefEqProofs[zA,f226,lv,h1,h2,h3,w1,w2,w5,w6,w7,w8,hd0,Ws,a]
theorem RD (up u v L:Nat)(es:List D):EX E0 60 zA (Av up u v es L (-1) .u)=some (.exit 0,Av up u v es L (-1) (.d (.v (.bool false)))):=by
 unfold Av;simp only[LD];generalize LL (enc u)=us,LL (enc v)=vs at*;simp -implicitDefEqProofs[zA,f226]
theorem Ou (up u v L j g:Nat)(es:List D)(hj:j<=100000000)(hg:g<=4294967295)(lv:(enc v).length<=10000000) :
  Ex E0 zA.r.l.bl.r.r.l {Av up u v es L j .u with vars:=[.u,.u,.ls (.loc 0) 0 1 0 L,.u,.u,.u,.d (.v (.int .i64 up)),.d (LD (enc u)),.d (LD (enc v)),.d (.v (.int .i64 j)),.u,.d (.v (.int .u64 g)),.u,.u,.u,.u]}
   (.norm,WB up u v es L j g (v*4294967296 ^ j*g) .u):=by
 have lg:(enc g).length<=1:=fO (k:=1) (by omega);have lvg:(enc (v*g)).length<=100000000:=by
  refine Nat.le_trans (fO (k:=(enc v).length+1) ?_) (by omega);have h1:=nC (aQ v);rw[aT]at h1;rw[Nat.pow_succ];exact Nat.lt_of_le_of_lt (Nat.mul_le_mul_left v (show g<=4294967296 by omega)) (Nat.mul_lt_mul_of_pos_right h1 (by omega))
 obtain⟨Kq,_,h1,h2,h3⟩:=((gY [g] (by simp)).j ((G_ (enc v) (enc g) (by omega) (by omega) (aQ _) (aQ _)).j ((zL (enc (v*g)) (32*j) (by omega) lvg (aQ _)).any))).at 0;rw[Ha _ (by omega)]at h1;rw[aT,aT]at h2;rw[aT,Nat.pow_mul,show(2:Nat) ^ 32=4294967296 by rfl]at h3;rw[show v*g*4294967296 ^ j=v*4294967296 ^ j*g by rw[Nat.mul_right_comm]]at h3;generalize Kq=N at*;have w1:ah .u32 (g:Int)=(g:Int):=wrap_u32 (by omega);have w2:ah .i64 (32*(j:Int))=((32*j:Nat):Int):=by rw[wrap_i64 (by omega)];omega
 refine Ex.of (n:=N+60) ?_;unfold Av WB;simp only[LD,LL,List.map_cons,List.map_nil]at h1 h2 h3 ⊢;generalize List.map (fun(x:Nat)=>D.v (Value.int IntKind.u32 (x:Int))) (enc u)=us at*;generalize List.map (fun(x:Nat)=>D.v (Value.int IntKind.u32 (x:Int))) (enc v)=vs at*;generalize List.map (fun(x:Nat)=>D.v (Value.int IntKind.u32 (x:Int))) (enc g)=gs at*;generalize List.map (fun(x:Nat)=>D.v (Value.int IntKind.u32 (x:Int))) (enc (v*g))=vgs at*;generalize List.map (fun(x:Nat)=>D.v (Value.int IntKind.u32 (x:Int))) (enc (v*4294967296 ^ j*g))=ps at*;generalize 32*j=j32 at*;simp -implicitDefEqProofs[zA,f226,h1,h2,h3,w1,w2]
theorem Ko (up u v k L j:Nat)(qs:List Nat)(hv:4294967296 ^ k<=v)(hv2:v<4294967296 ^ (k+1))(hj:j<=50000000)(hk:k<=1000000)(lu:(enc u).length<=100000000)(hu:u<v*4294967296 ^ j*4294967296)
  (hL:j+1+qs.length=L) :
  Ex E0 zA (Av up u v (LL (jM (j+1) qs)) L j .u) (.norm,Av up (u % (v*4294967296 ^ j)) v (LL (jM j (u / (v*4294967296 ^ j)::qs))) L ((j:Int)-1) .u):=by
 have hv0:0<v:=Nat.lt_of_lt_of_le (Nat.pow_pos (by omega)) hv;have hw:0<v*4294967296 ^ j:=Nat.mul_pos hv0 (Nat.pow_pos (by omega));have lv:=zO hv hv2;have hdig:=RA hv hu;have hd32:u / (v*4294967296 ^ j)<4294967296:=by rw[Nat.div_lt_iff_lt_mul hw,Nat.mul_comm];exact hu
 have hu2:u<4294967296 ^ (j+k+2):=by
  refine Nat.lt_of_lt_of_le hu ?_;rw[show j+k+2=(k+1)+j+1 by omega,Nat.pow_succ,Nat.pow_add];exact Nat.mul_le_mul_right _ (Nat.mul_le_mul_right _ (by omega))
 have lw:(enc (v*4294967296 ^ j*4294967295)).length<=100000000:=by
  refine Nat.le_trans (fO (k:=(k+1)+j+1) ?_) (by omega);rw[Nat.pow_succ,Nat.pow_add];exact Nat.lt_of_le_of_lt (Nat.mul_le_mul_left _ (show 4294967295<=4294967296 by omega)) (Nat.mul_lt_mul_of_pos_right (Nat.mul_lt_mul_of_pos_right hv2 (Nat.pow_pos (by omega))) (by omega))
 have aaj:=Km up u v k L j (LL (jM (j+1) qs)) hv hv2 (by omega) (by omega) lu hu2;have adq:=Ou up u v L j (min (u / 4294967296 ^ (j+k) / (v / 4294967296 ^ k)) 4294967295) (LL (jM (j+1) qs)) (by omega) (Nat.min_le_right ..) (by omega);have aak:=Kl up u v L j (u / (v*4294967296 ^ j)) (LL (jM (j+1) qs)) hv0 (by omega) lu (by omega) lw rfl _ hdig (Nat.min_le_right ..);have hmul:v*4294967296 ^ j*(u / (v*4294967296 ^ j))<=u:=Nat.mul_div_le u _;obtain⟨n1,hm⟩:=(Aj (enc u) (enc (v*4294967296 ^ j*(u / (v*4294967296 ^ j)))) (by omega) (bI hmul) (aQ _) (aQ _) (by rw[aT,aT];exact hmul)).get;have hmod:u-v*4294967296 ^ j*(u / (v*4294967296 ^ j))=u % (v*4294967296 ^ j):=by
  have:=Nat.div_add_mod u (v*4294967296 ^ j);omega
 rw[aT,aT,hmod]at hm;have hz:=MO qs j;have hset:=G6 qs j (u / (v*4294967296 ^ j));have hlen:=qE qs (j+1);have hlv:(LL (enc v)).length=k+1:=by simp[LL,lv]
 generalize LL (jM (j+1) qs)=es at*;rw[<-hset];clear hset;generalize u / (v*4294967296 ^ j)=d,min (u / 4294967296 ^ (j+k) / (v / 4294967296 ^ k)) 4294967295=g at*;generalize v*4294967296 ^ j=w at*;have hjL:j<L:=by omega
 have hz2:=idx hz;have w1:ah .i64 ((j:Int)+((k+1:Nat):Int))=((j+k+1:Nat):Int):=by rw[wrap_i64 (by omega)];omega
 have w2:ah .u32 (d:Int)=(d:Int):=wrap_u32 (by omega);have w3:ah .i64 ((j:Int)-1)=(j:Int)-1:=wrap_i64 (by omega);have w4:(0:Int)<=(j:Int):=by omega
 show Ex E0 (.seq zA.l (.seq (.block 1 (.seq zA.r.l.bl.l (.seq zA.r.l.bl.r.l (.seq zA.r.l.bl.r.r.l (.seq (.block 2 (.loop oiB)) (.seq zA.r.l.bl.r.r.r.r.l zA.r.l.bl.r.r.r.r.r)))))) zA.r.r)) _ _;refine Ex.seq (st1:=Av up u v es L j (.d (.v (.bool true)))) (Ex.of (n:=40) ?_) (Ex.seq (st1:=Av up (u % w) v (es.set j (.v (.int .u32 (d:Int)))) L j .u) (Ex.h_ (Ex.seq (Ex.of (n:=40) ?_) (Ex.seq aaj (Ex.seq adq (Ex.seq aak.block
  (Ex.seq (st1:={Av up (u % w) v es L j .u with vars:=[.u,.u,.ls (.loc 0) 0 1 0 L,.u,.u,.u,.d (.v (.int .i64 up)),.d (LD (enc (u % w))),.d (LD (enc v)),.d (.v (.int .i64 j)),.u,.d (.v (.int .u64 d)),.u,.u,.u,.u]}) (Ex.of (n:=n1+40) ?_) (Ex.of (n:=40) ?_))))))) (Ex.of (n:=40) ?_))
 ·unfold Av;simp only[LD];generalize LL (enc u)=us at*;generalize LL (enc v)=vs at*;simp -implicitDefEqProofs[zA,f226,w4]
 ·unfold Av;simp only[LD];generalize LL (enc u)=us at*;generalize LL (enc v)=vs at*;generalize j+k+1=n at*;generalize k+1=m at*;simp -implicitDefEqProofs[zA,f226,hlv,w1]
 ·unfold Av WB;simp only[LD]at hm ⊢;generalize LL (enc u)=us at*;generalize LL (enc v)=vs at*;generalize LL (enc (u % w))=ms at*;generalize LL (enc (w*d))=ps at*;simp -implicitDefEqProofs[zA,f226,hm]
 ·unfold Av;simp only[LD];generalize LL (enc (u % w))=us at*;generalize LL (enc v)=vs at*;simp -implicitDefEqProofs[zA,f226,hz,hz2,w2,w4,hjL,hlen]
 ·unfold Av;simp only[LD];generalize LL (enc (u % w))=us at*;generalize LL (enc v)=vs at*;simp -implicitDefEqProofs[zA,f226,w3]
theorem Ov (up u0 v k L:Nat)(hv:4294967296 ^ k<=v)(hv2:v<4294967296 ^ (k+1))(hL:L<=50000000)(hk:k<=1000000)(lu:(enc u0).length<=100000000)(hu:u0<v*4294967296 ^ L) :
  ∃ r,Ex E0 (.loop zA) (Av up u0 v (LL (jM L [])) L ((L:Int)-1) .u) r /\
   ∃ qs,bT qs/\qs.length=L/\val qs=u0 / v/\r=(.exit 0,Av up (u0 % v) v (LL qs) L (-1) (.d (.v (.bool false)))):=by
 have hv0:0<v:=Nat.lt_of_lt_of_le (Nat.pow_pos (by omega)) hv;refine Ex.inv (S:=fun t:Nat × Nat × List Nat=>Av up t.2.1 v (LL (jM t.1 t.2.2)) L ((t.1:Int)-1) .u) (fun t=>t.1)
  (fun t=>t.1+t.2.2.length=L/\bT t.2.2/\t.2.1<v*4294967296 ^ t.1/\u0=val t.2.2*4294967296 ^ t.1*v+t.2.1) _ ?_ (L,u0,[]) ?_
 ·rintro⟨j,u,qs⟩ ⟨h1,h2,h3,h4⟩;simp only at h1 h2 h3 h4;cases j with
  | zero =>
   simp only[Nat.pow_zero,Nat.mul_one]at h3 h4;have hd:u0 / v=val qs:=by rw[h4,Nat.mul_comm,Nat.mul_add_div hv0,Nat.div_eq_of_lt h3];rfl
   have hm:u0 % v=u:=by rw[h4,Nat.mul_comm,Nat.mul_add_mod,Nat.mod_eq_of_lt h3]
   refine .inr ⟨_,?_,?_,qs,h2,by omega,hd.symm,rfl⟩
   ·rw[hm];have:=RD up u v L (LL qs);simpa[jM] using Ex.of this
   ·simp
  | succ j =>
   have hu0:u<=u0:=by omega
   have hw:0<v*4294967296 ^ j:=Nat.mul_pos hv0 (Nat.pow_pos (by omega));have h3':u<v*4294967296 ^ j*4294967296:=by rw[Nat.mul_assoc,<-Nat.pow_succ];exact h3
   have hr:=Ko up u v k L j qs hv hv2 (by omega) hk (Nat.le_trans (bI hu0) lu) h3' (by omega);refine .inl ⟨(j,u % (v*4294967296 ^ j),u / (v*4294967296 ^ j)::qs),?_,by simp,?_,?_,?_,?_⟩
   ·simp only;rw[show(((j+1:Nat):Int)-1)=(j:Int) by omega];exact hr
   ·simp only[List.length_cons];omega
   ·intro y hy;rcases List.mem_cons.1 hy with rfl|hy
    ·rw[Nat.div_lt_iff_lt_mul hw,Nat.mul_comm];exact h3'
    ·exact h2 y hy
   ·exact Nat.mod_lt _ hw
   ·simp only[val];have e:u0=val qs*4294967296*(v*4294967296 ^ j)+u:=by
     rw[h4,Nat.pow_succ]
     congr 1
     generalize 4294967296 ^ j=P;grind
    rw[Nat.mul_assoc,Nat.mul_comm _ v];exact RB e
 ·refine⟨by simp,?_,by simpa using hu,by simp[val]⟩;intro x hx;cases hx
theorem Kr {y:Nat}(hy:0<y):4294967296 ^ ((enc y).length-1)<=y:=by
 rcases Nat.lt_or_ge y (4294967296 ^ ((enc y).length-1)) with h|h
 ·have h1:=fO h;have h2:enc y≠[]:=by intro e;rw[dR]at e;omega
  have h3:0<(enc y).length:=List.length_pos_iff.2 h2;omega
 ·exact h
theorem xB (y:Nat):y<4294967296 ^ (enc y).length:=by
 have:=nC (aQ y)
 rwa [aT]at this
theorem Fs (x y:Nat)(hy:0<y)(lx:(enc x).length<=1000000)(ly:(enc y).length<=1000000) :
  Ca E0 Y7 [.d (LD (enc x)),.d (LD (enc y))] (.d (.t [LD (enc (x / y)),LD (enc (x % y))]),none):=by
 by_cases hsm:y<4294967296
 ·have:=Ru (enc x) y (by omega) (aQ x) hsm hy
  rwa [aT]at this
 ·have ah9:0<(enc y).length:=List.length_pos_iff.2 (by intro e;rw[dR]at e;omega);obtain⟨k,hk⟩:∃ k,(enc y).length=k+1:=⟨(enc y).length-1,by omega⟩
  have h1:4294967296 ^ k<=y:=by have:=Kr hy;rw[hk]at this;simpa using this
  have h2:y<4294967296 ^ (k+1):=by have:=xB y;rwa [hk]at this
  have hk1:1<=k:=by
   rcases Nat.eq_zero_or_pos k with rfl|h
   ·simp at h2;omega
   ·exact h
  obtain⟨lo,htop,hlo⟩:=WA k h1 h2;obtain⟨g1,g2⟩:=Rz h1 h2;have ht1:y / 4294967296 ^ k<4294967296:=by rw[Nat.div_lt_iff_lt_mul (Nat.pow_pos (by omega)),Nat.mul_comm,<-Nat.pow_succ];exact h2
  have hbl:=zN ht1;have Fu:=fun m=>Kk m lo (y / 4294967296 ^ k) ht1 (by omega)
  rw[<-htop,hlo]at Fu;generalize hbe:fP (y / 4294967296 ^ k)=bl at*;generalize hup:32-bl=up at*;have adr:up<=32:=by omega
  obtain⟨n1,hlx⟩:=(zL (enc x) up (by omega) (by omega) (aQ x)).any;obtain⟨n2,hly⟩:=(zL (enc y) up (by omega) (by omega) (aQ y)).any;rw[aT]at hlx hly;have hp:0<2 ^ up:=Nat.pow_pos (by omega);have lu:(enc (x*2 ^ up)).length<=(enc x).length+1:=by
   refine fO ?_;rw[Nat.pow_succ];have e1:=xB x;have e2:2 ^ up<=4294967296:=by
    have:=Nat.pow_le_pow_right (n:=2) (by omega) adr;simpa using this
   exact Nat.lt_of_lt_of_le (Nat.mul_lt_mul_of_pos_right e1 hp) (Nat.mul_le_mul_left _ e2)
  have hq:(x*2 ^ up) / (y*2 ^ up)=x / y:=Nat.mul_div_mul_right x y hp;have hr:(x*2 ^ up) % (y*2 ^ up)=x % y*2 ^ up:=Nat.mul_mod_mul_right (2 ^ up) x y;have hr2:x % y*2 ^ up / 2 ^ up=x % y:=Nat.mul_div_cancel _ hp;have hlv:(enc (y*2 ^ up)).length=k+1:=zO g2 g1;have lr:(enc (x % y*2 ^ up)).length<=100000000:=Nat.le_trans (bI (Nat.mul_le_mul_right _ (Nat.mod_le x y))) (by omega);obtain⟨n3,Fv⟩:=(Rw (enc (x % y*2 ^ up)) up (by omega) lr (aQ _)).any;rw[aT,hr2]at Fv;have hu0:x*2 ^ up<y*2 ^ up*4294967296 ^ ((enc (x*2 ^ up)).length-k):=by
   refine Nat.lt_of_lt_of_le (xB (x*2 ^ up)) ?_;refine Nat.le_trans ?_ (Nat.mul_le_mul_right _ g2);rw[<-Nat.pow_add];exact Nat.pow_le_pow_right (by omega) (by omega)
  obtain⟨r,hloop,qs,hqs,Z_,hqv,rfl⟩:=Ov up (x*2 ^ up) (y*2 ^ up) k ((enc (x*2 ^ up)).length-k) g2 g1 (by omega) (by omega) (by omega) hu0;rw[hq]at hqv;rw[hr]at hloop;obtain⟨n4,hc⟩:=(gY qs (by omega)).any;rw[cB hqs,hqv]at hc;replace hlx:=hlx (n1+n2+n3+n4) (by omega);replace hly:=hly (n1+n2+n3+n4) (by omega);replace Fv:=Fv (n1+n2+n3+n4) (by omega);replace hc:=hc (n1+n2+n3+n4) (by omega);generalize n1+n2+n3+n4=N at*;have hlY:(LL (enc y)).length=k+1:=by simp[LL,hk]
  have hlV:(LL (enc (y*2 ^ up))).length=k+1:=by simp[LL,hlv]
  have hlU:(LL (enc (x*2 ^ up))).length=(enc (x*2 ^ up)).length:=by simp[LL]
  have hlQ:(LL qs).length=(enc (x*2 ^ up)).length-k:=by simp[LL,Z_]
  have hz:LL (jM ((enc (x*2 ^ up)).length-k) [])=List.replicate ((enc (x*2 ^ up)).length-k) (.v (.int .u32 0)):=by simp[LL,jM]
  have hLb:(enc (x*2 ^ up)).length-k<=2000000:=by omega
  have hmax:∃ z:Int,z=((enc (x*2 ^ up)).length:Int)-((k+1:Nat):Int)+1/\((z > 0/\z=(((enc (x*2 ^ up)).length-k:Nat):Int))\/(¬ z > 0/\(enc (x*2 ^ up)).length-k=0)):=⟨_,rfl,by omega⟩
  obtain⟨z,hze,hzc⟩:=hmax;have lU:(enc (x*2 ^ up)).length<=1000001:=by omega
  have w1:ah .i64 (32*((k+1:Nat):Int))=((32*(k+1):Nat):Int):=by rw[wrap_i64 (by omega)];omega
  have w2:ah .i64 (((32*(k+1):Nat):Int)-((32*k+bl:Nat):Int))=(up:Int):=by rw[wrap_i64 (by omega)];omega
  have w3:ah .i64 (((enc (x*2 ^ up)).length:Int)-((k+1:Nat):Int))=((enc (x*2 ^ up)).length:Int)-((k+1:Nat):Int):=wrap_i64 (by omega);have w4:ah .i64 (((enc (x*2 ^ up)).length:Int)-((k+1:Nat):Int)+1)=z:=by rw[wrap_i64 (by omega),hze]
  have w5:ah .i64 ((((enc (x*2 ^ up)).length-k:Nat):Int)-1)=(((enc (x*2 ^ up)).length-k:Nat):Int)-1:=wrap_i64 (by omega);have hne:(((k+1:Nat):Int)==1)=false:=by simp;omega
  clear hu0 g1 g2 hq hr hr2 lr hbe htop hlo Z_ hqs hqv h1 h2 ht1 hbl;generalize hX:enc (x*2 ^ up)=eX at*;generalize hY:enc (y*2 ^ up)=eY at*;refine Ca.body (o:=.ret) (st1:=(st0 [.u,.u,.d (LD (enc (x / y))),.d (LD (enc (x % y))),.u,.u,.u,.u,.u,.u,.u,.u,.u,.u,.u,.u] [.gG 0 1 (LL qs)])) rfl (k226:E0.fn _=_) rfl ?_ (by intro id h;cases h) ?_
  ·show Ex E0 (.seq yH.body.l (.seq yH.body.r.l (.seq yH.body.r.r.l (.seq yH.body.r.r.r.l (.seq yH.body.r.r.r.r.l (.seq (.seq yH.body.r.r.r.r.r.l.l (.block 0 (.loop zA))) yH.body.r.r.r.r.r.r)))))) _ _;refine Ex.seq (st1:=(st0 [.d (LD (enc x)),.d (LD (enc y)),.u,.u,.u,.u,.u,.u,.u,.u,.u,.u,.u,.u,.u,.u] [])) (Ex.of (n:=40) ?_)
    (Ex.seq (st1:=(st0 [.d (LD (enc x)),.d (LD (enc y)),.u,.u,.u,.u,.u,.u,.u,.u,.u,.u,.u,.d (.v (.bool false)),.u,.u] [])) (Ex.of (n:=40) ?_)
    (Ex.seq (st1:=(st0 [.d (LD (enc x)),.d (LD (enc y)),.u,.u,.u,.u,.d (.v (.int .i64 up)),.u,.u,.u,.u,.u,.u,.u,.u,.u] [])) (Ex.of (n:=200) ?_)
    (Ex.seq (st1:=(st0 [.u,.u,.u,.u,.u,.u,.d (.v (.int .i64 up)),.d (LD eX),.d (LD eY),.u,.u,.u,.u,.u,.u,.u] [])) (Ex.of (n:=N+40) ?_)
    (Ex.seq (st1:=(st0 [.u,.u,.ls (.loc 0) 0 1 0 (eX.length-k),.u,.u,.u,.d (.v (.int .i64 up)),.d (LD eX),.d (LD eY),.u,.u,.u,.u,.u,.u,.u] [.row 0 1 (LL (jM (eX.length-k) []))])) (Ex.of (n:=40) ?_)
    (Ex.seq (Ex.seq (Ex.of (n:=40) ?_) hloop.block) (Ex.of (n:=N+40) ?_))))))
   ·simp -implicitDefEqProofs[f226]
   ·simp only[LD];generalize LL (enc x)=xs,LL (enc y)=ys,k+1=m at*;simp -implicitDefEqProofs[f226,hlY,hne]
   ·simp only[LD]at Fu ⊢;generalize LL (enc x)=xs,LL (enc y)=ys,k+1=m at*;generalize 32*m=m32,32*k+bl=kb at*;simp -implicitDefEqProofs[f226,hlY,Fu,w1,w2]
   ·simp only[LD]at hlx hly ⊢;generalize LL (enc x)=xs,LL (enc y)=ys,LL eX=Xs,LL eY=Ys at*;simp -implicitDefEqProofs[f226,hlx,hly]
   ·have hm1:((eX.length-k:Nat):Int)*4<=1099511627776:=by omega
    have hm2:((eX.length-k:Nat):Int)<=1099511627776:=by omega
    rw[hz];generalize eX.length-k=L at*;generalize eX.length=lX at*;simp only[LD];generalize LL eX=Xs,LL eY=Ys,k+1=m at*;rcases hzc with ⟨a,b⟩|⟨a,b⟩
    ·rw[b]at w4 a;replace a:0<L:=by omega
     simp -implicitDefEqProofs[f226,hlU,hlV,w3,w4,a,hm1,hm2,most]
    ·subst b;simp -implicitDefEqProofs[f226,hlU,hlV,w3,w4,a,most]
   ·unfold Av;simp only[hX,hY,LD];have hlR:(LL (jM (eX.length-k) [])).length=eX.length-k:=by rw[qE];simp
    generalize LL (jM (eX.length-k) [])=es at*;generalize eX.length-k=L,LL eX=Xs,LL eY=Ys at*;simp -implicitDefEqProofs[f226,w5]
   ·unfold Av;simp only[LD]at hc Fv ⊢;clear hloop;generalize LL (enc (x % y*2 ^ up))=rs,LL (enc (y*2 ^ up))=Ys,LL (enc (x / y))=as1 at*;generalize LL (enc (x % y))=as2,eX.length-k=L at*;have htk:(LL qs).take L=LL qs:=List.take_of_length_le (by omega);generalize LL qs=Qs at*;simp -implicitDefEqProofs[ae.view,f226,hlQ,htk,hc,Fv]
  ·simp -implicitDefEqProofs[f226,LD,tN]
theorem Kt (a b:Nat)(la:(enc a).length<=1000000)(lb:(enc b).length<=1000000)(hb0:0<b):Ex E0 gcB (Dr a b .u) (.norm,Dr b (a % b) .u):=by
 obtain⟨n0,ho⟩:=(Fs a b hb0 la lb).get;refine Ex.of (n:=n0+60) ?_;unfold Dr;have hlb:∃ m,(LL (enc b)).length=m+1:=by
  have:0<(enc b).length:=List.length_pos_iff.2 (by intro e;rw[dR]at e;omega);exact⟨(enc b).length-1,by simp[LL];omega⟩
 obtain⟨m,hlb⟩:=hlb;have hm:0<(m:Int)+1:=by omega
 simp only[LD]at ho ⊢;generalize LL (enc a)=as',LL (enc b)=bs,LL (enc (a / b))=qs,LL (enc (a % b))=rs at*;simp -implicitDefEqProofs[gcB,f183,hlb,ho,hm]
theorem Ow (a b:Nat)(la:(enc a).length<=1000000)(lb:(enc b).length<=1000000):Ex E0 (.loop gcB) (Dr a b .u) (.exit 0,Dr (Nat.gcd a b) 0 (.d (.v (.bool false)))):=by
 induction b using Nat.strongRecOn generalizing a with
 | ind b ih =>
  rcases Nat.eq_zero_or_pos b with rfl|h0
  ·rw[Nat.gcd_zero_right];exact Ex.out (Wu a) (by simp)
  ·have hm:=Nat.mod_lt a h0;have:=ih (a % b) hm b lb (Nat.le_trans (bI (by omega)) lb);have hg:Nat.gcd a b=Nat.gcd b (a % b):=by rw[Nat.gcd_comm a b,Nat.gcd_rec b a,Nat.gcd_comm]
   rw[hg];exact Ex.next (Kt a b la lb h0) this
theorem RF (a b:Nat)(la:(enc a).length<=1000000)(lb:(enc b).length<=1000000):Ca E0 af3 [.d (LD (enc a)),.d (LD (enc b))] (.d (LD (enc (Nat.gcd a b))),none):=by
 have hl:=Ow a b la lb;generalize Nat.gcd a b=g at*;refine Ca.body (o:=.ret) (st1:=(st0 [.u,.u,.d (LD (enc g)),.u,.u] [])) rfl (k183:E0.fn _=_) rfl ?_ (by intro id h;cases h) ?_
 ·show Ex E0 (.seq aab.body.l (.seq (.block 0 (.loop gcB)) aab.body.r.r)) _ _;refine Ex.seq (st1:=Dr a b .u) (Ex.of (n:=40) ?_) (Ex.seq hl.block (Ex.of (n:=40) ?_))
  ·unfold Dr;simp -implicitDefEqProofs[f183]
  ·unfold Dr;simp -implicitDefEqProofs[f183]
 ·simp -implicitDefEqProofs[f183,LD]
abbrev af6:Nat:=182
abbrev aiR:ai:=f182
abbrev aal:Nat:=109
abbrev af7:ai:=f109
theorem Fw (n:Nat):CL E0 (n+20) af6 [] []=some (.d (.s 1 [.v (.int .u32 1)]),none):=by
 rw[ak rfl (k182:E0.fn _=_) rfl];simp -implicitDefEqProofs[f182]
theorem Aw:LD (enc 1)=.s 1 [.v (.int .u32 1)]:=by rw[jf (by omega) (by omega)];rfl
def uq (l:List Nat):Bool:=decide (trim l=l)
theorem MP (n:Nat):uq (enc n)=true:=by simp[uq,Hm]
theorem mR {l:List Nat}(hl:bT l):uq l=true↔l=enc (val l):=by
 unfold uq;rw[decide_eq_true_iff,cB hl];exact⟨fun h=>h.symm,fun h=>h.symm⟩
theorem yI (m:Nat)(l:List Nat)(hl:l.length<=1000000000):CL E0 (m+30) Wj [.d (LD l)] []=some (.d (.v (.bool (uq l))),none):=by
 rw[ak rfl (k180:E0.fn _=_) rfl];rcases List.eq_nil_or_concat l with h|⟨b,x,h⟩
 ·rw[h];have:uq []=true:=by simp[uq,trim]
  rw[this];simp -implicitDefEqProofs[f180,LD,LL]
 ·rw[List.concat_eq_append]at h;rw[h]at hl ⊢;have hlen:(LL (b++[x])).length=b.length+1:=by simp[LL]
  have hget:(LL (b++[x]))[b.length]?=some (.v (.int .u32 (x:Int))):=by simp[LL]
  have hb:(((b.length:Int)+1)==0)=false:=by simp;omega
  have hw:ah .i64 (b.length:Int)=(b.length:Int):=wrap_i64 (by simp at hl;omega);have hok:uq (b++[x])=((x:Int) != 0):=by
   unfold uq
   by_cases hx:x=0
   ·subst hx;rw[rX];have h2:=qG b;have h3:¬ trim b=b++[0]:=by
     intro e;rw[e]at h2;simp only[List.length_append,List.length_cons,List.length_nil]at h2;omega
    simp[h3]
   ·rw[rW b x hx];simp[hx]
  rw[hok];simp only[LD];generalize LL (b++[x])=es at*;have Ah:=idx hget;simp -implicitDefEqProofs[f180,hlen,hget,Ah,hb,hw]
def raw (s:Bool)(a b:List Nat):D:=.a [.v (.bool s),LD a,LD b]
def dM (s:Bool)(a b:List Nat):Bool :=
 uq a&&uq b&&(if a=[] then !s&&decide (b=[]) else decide (b=[])||(decide (val b≠1)&&decide (Nat.gcd (val a) (val b)=1)))
theorem WC {a:Nat}:(dL a 1 != 0)=decide (a≠1):=by
 unfold dL
 by_cases h:a<1
 ·rw[if_pos h];simp;omega
 ·rw[if_neg h]
  by_cases h2:a=1
  ·simp[h2]
  ·simp[h2]
theorem WE {a:Nat}:(dL a 1==0)=decide (a=1):=by
 unfold dL
 by_cases h:a<1
 ·rw[if_pos h];simp;omega
 ·rw[if_neg h]
  by_cases h2:a=1
  ·simp[h2]
  ·simp[h2]
theorem xC (s:Bool)(a b:List Nat)(la:a.length<=1000000)(lb:b.length<=1000000)(ha:bT a)(hb:bT b):Ca E0 aal [.d (raw s a b)] (.d (.v (.bool (dM s a b))),none):=by
 have p1:=fun m=>yI m a (by omega)
 have p2:=fun m=>yI m b (by omega)
 have o1:=Fw;unfold dM
 by_cases hoa:uq a=true
 ·by_cases GN:uq b=true
  ·rw[hoa]at p1 ⊢;rw[GN]at p2 ⊢
   by_cases hna:a=[]
   ·subst hna;simp only[raw,LD,LL,List.map_nil]at p1 p2 ⊢
    by_cases hnb:b=[]
    ·subst hnb;refine Ca.bO (n:=60) ?_;rw[ak rfl (k109:E0.fn _=_) rfl];simp only[List.map_nil]at p2 ⊢;cases s<;>simp -implicitDefEqProofs[f109,p1]
    ·have hlen:((List.map (fun(x:Nat)=>D.v (Value.int IntKind.u32 (x:Int))) b).length==0)=false:=by simp[hnb]
     refine Ca.bO (n:=60) ?_;rw[ak rfl (k109:E0.fn _=_) rfl];have D9:¬ (List.map (fun(x:Nat)=>D.v (Value.int IntKind.u32 (x:Int))) b)=[]:=by simp[hnb]
     generalize List.map (fun(x:Nat)=>D.v (Value.int IntKind.u32 (x:Int))) b=bs at*;cases s<;>simp -implicitDefEqProofs[f109,p1,p2,hnb,hlen,D9]
   ·have hla:¬ (LL a)=[]:=by simp[LL,hna]
    by_cases hnb:b=[]
    ·subst hnb;refine Ca.bO (n:=60) ?_;rw[ak rfl (k109:E0.fn _=_) rfl];simp only[raw,LD]at p1 p2 ⊢;generalize LL a=as' at*;simp only[LL,List.map_nil]at p2 ⊢;simp -implicitDefEqProofs[f109,p1,p2,hna,hla]
    ·have hlb:¬ (LL b)=[]:=by simp[LL,hnb]
     have ea:=(mR ha).1 hoa;have eb:=(mR hb).1 GN;have l1:=fO (n:=1) (k:=1) (by omega);have hg:(enc (Nat.gcd (val a) (val b))).length<=1000000:=by
      refine Nat.le_trans (bI (m:=Nat.gcd (val a) (val b)) (n:=val b) (Nat.le_of_dvd ?_ (Nat.gcd_dvd_right _ _))) (by rw[<-eb];omega);rcases Nat.eq_zero_or_pos (val b) with h|h
      ·rw[h]at eb;rw[dn]at eb;exact absurd eb hnb
      ·exact h
     obtain⟨Kq,_,c1,c2,c3⟩:=((xx b (enc 1) (by omega) (by omega) hb (aQ _)).j ((xx (enc (Nat.gcd (val a) (val b))) (enc 1) (by omega) (by omega) (aQ _) (aQ _)).j ((RF (val a) (val b) (by rw[<-ea];omega) (by rw[<-eb];omega)).any))).at 0;generalize Kq=N at*;simp only[aT]at c1 c2;rw[<-ea,<-eb]at c3;rw[Aw]at c1 c2;have e1:=WC (a:=val b);have e2:=WE (a:=Nat.gcd (val a) (val b));refine Ca.bO (n:=N+60) ?_;rw[ak rfl (k109:E0.fn _=_) rfl];rw[if_neg hna];simp only[hnb,decide_false,Bool.false_or,Bool.true_and];rw[<-e1,<-e2];clear e1 e2 ea eb;generalize dL (val b) 1=k1,dL (Nat.gcd (val a) (val b)) 1=k2 at*;simp only[raw,LD]at p1 p2 c1 c2 c3 ⊢;generalize LL a=as',LL b=bs,LL (enc (Nat.gcd (val a) (val b)))=gs at*;cases hk1:(k1 != 0)
     ·simp -implicitDefEqProofs[f109,p1,p2,hla,hlb,o1,c1,c2,c3,hk1]
     ·simp -implicitDefEqProofs[f109,p1,p2,hla,hlb,o1,c1,c2,c3,hk1]
  ·simp only[Bool.not_eq_true]at GN;rw[hoa]at p1 ⊢;rw[GN]at p2 ⊢;refine Ca.bO (n:=60) ?_;rw[ak rfl (k109:E0.fn _=_) rfl];simp only[raw,LD]at p1 p2 ⊢;generalize LL a=as',LL b=bs at*;simp -implicitDefEqProofs[f109,p1,p2]
 ·simp only[Bool.not_eq_true]at hoa;rw[hoa]at p1 ⊢;refine Ca.bO (n:=60) ?_;rw[ak rfl (k109:E0.fn _=_) rfl];simp only[raw,LD]at p1 p2 ⊢;generalize LL a=as',LL b=bs at*;simp -implicitDefEqProofs[f109,p1,p2]
abbrev nOf:Nat:=185
abbrev fOf:ai:=f185
abbrev aam:Nat:=230
abbrev af8:ai:=f230
abbrev af9:Nat:=187
abbrev aiT:ai:=f187
def sz (n:Nat):Nat:=(enc n).length
theorem tQ {n k:Nat}(h:n<4294967296 ^ k):sz n<=k:=fO h
theorem Ho (n:Nat):n<4294967296 ^ sz n:=xB n
theorem oF {m n:Nat}(h:m<=n):sz m<=sz n:=bI h
theorem eP (a b:Nat):sz (a*b)<=sz a+sz b:=by
 refine tQ ?_;rw[Nat.pow_add];have h1:=Ho a;have h2:=Ho b;exact Nat.lt_of_le_of_lt (Nat.mul_le_mul_left a (Nat.le_of_lt h2)) (Nat.mul_lt_mul_of_pos_right h1 (Nat.pow_pos (by omega)))
theorem Ku (a b:Nat):sz (a+b)<=max (sz a) (sz b)+1:=by
 refine tQ ?_;rw[Nat.pow_succ];have h1:=Nat.lt_of_lt_of_le (Ho a) (Nat.pow_le_pow_right (n:=4294967296) (by omega) (Nat.le_max_left (sz a) (sz b)));have h2:=Nat.lt_of_lt_of_le (Ho b) (Nat.pow_le_pow_right (n:=4294967296) (by omega) (Nat.le_max_right (sz a) (sz b)));omega
theorem Ay:sz 1=1:=by unfold sz;rw[jf (by omega) (by omega)];rfl
def fq (s:Bool)(n d:Nat):D:=.a [.v (.bool s),LD (enc n),LD (enc d)]
def qs (x:Rat):Bool:=decide (x.num<0)
def qn (x:Rat):List Nat:=enc x.num.natAbs
def qd (x:Rat):List Nat:=if x.den=1 then [] else enc x.den
def qD (x:Rat):D:=raw (qs x) (qn x) (qd x)
def fqR (x:Rat):D:=fq (qs x) x.num.natAbs x.den
def qz (x:Rat):Nat:=max (sz x.num.natAbs) (sz x.den)
theorem Fx (x:Rat):bT (qn x):=aQ _
theorem Fy (x:Rat):bT (qd x):=by
 unfold qd;split
 ·intro y hy;cases hy
 ·exact aQ _
theorem RG (x:Rat):(qn x).length<=qz x:=Nat.le_max_left _ _
theorem RH (x:Rat):(qd x).length<=qz x:=by
 unfold qd;split
 ·simp
 ·exact Nat.le_max_right _ _
theorem rY (x:Rat):dM (qs x) (qn x) (qd x)=true:=by
 have hd:=x.den_nz;have hr:Nat.gcd x.num.natAbs x.den=1:=x.reduced;have ok2:uq (qd x)=true:=by
  unfold qd;split
  ·simp[uq,trim]
  ·exact MP _
 unfold dM;rw[show uq (qn x)=true from MP _,ok2];simp only[Bool.true_and]
 by_cases h0:qn x=[]
 ·rw[if_pos h0];have hz:x.num.natAbs=0:=dR.1 h0;have hz2:x.num=0:=Int.natAbs_eq_zero.1 hz;rw[hz,Nat.gcd_zero_left]at hr;simp[qs,qd,hz2,hr]
 ·rw[if_neg h0];unfold qd;split
  ·simp
  ·rename_i h1;have e1:val (qn x)=x.num.natAbs:=aT _;simp[aT,e1,hr,h1]
theorem Az (x:Rat)(hx:qz x<=1000000):Ca E0 nOf [.d (qD x)] (.d (fqR x),none):=by
 obtain⟨N,hv⟩:=(xC (qs x) (qn x) (qd x) (Nat.le_trans (RG x) hx) (Nat.le_trans (RH x) hx) (Fx x) (Fy x)).get;rw[rY]at hv;have o1:=Fw;have hn:enc x.num.natAbs=qn x:=rfl;refine Ca.bO (n:=N+60) ?_;rw[ak rfl (k185:E0.fn _=_) rfl];simp only[qD,fqR,fq,raw,hn];simp only[raw]at hv;generalize qs x=s at*
 by_cases hd:x.den=1
 ·have e:qd x=[]:=if_pos hd;rw[e]at hv ⊢;rw[hd,Aw];simp only[LD]at hv ⊢;generalize LL (qn x)=ns at*;simp only[LL,List.map_nil]at hv ⊢;simp -implicitDefEqProofs[f185,hv,o1]
 ·have e:qd x=enc x.den:=if_neg hd;have D9:¬ LL (enc x.den)=[]:=by
   have:=x.den_nz;simp[LL,dR,this]
  rw[e]at hv ⊢;simp only[LD]at hv ⊢;generalize LL (qn x)=ns,LL (enc x.den)=ds at*;simp -implicitDefEqProofs[f185,hv,D9]
theorem AA (m:Nat)(l:List Nat)(h0:l≠[])(hl:l.length<=100000000):CL E0 (m+30) aam [.d (LD l)] []=some (.d (LD l),none):=by
 rw[ak rfl (k230:E0.fn _=_) rfl];obtain⟨x,r,rfl⟩:∃ x r,l=x::r:=by cases l with|nil=>exact absurd rfl h0|cons x r=>exact⟨x,r,rfl⟩
 simp only[LD,LL,List.map_cons];have hlen:(List.map (fun(x:Nat)=>D.v (Value.int IntKind.u32 (x:Int))) r).length<=100000000:=by simp at hl ⊢;omega
 have hone:∀ y ∈ List.map (fun(x:Nat)=>D.v (Value.int IntKind.u32 (x:Int))) r,D.one y=true:=by
  intro y hy;obtain⟨z,_,rfl⟩:=List.mem_map.1 hy;rfl
 generalize List.map (fun(x:Nat)=>D.v (Value.int IntKind.u32 (x:Int))) r=es at*;have hm:(es.length+1)*4<=1099511627776:=by omega
 have hm2:(es.length+1)<=1099511627776:=by omega
 simp -implicitDefEqProofs[f230,ae.view,most,hm,hm2]
def tC (s:Bool)(n:Nat):Int:=if s then -(n:Int) else n
def vk (s:Bool)(n d:Nat):Rat:=mkRat (tC s n) d
theorem uu (s:Bool)(n:Nat):(tC s n).natAbs=n:=by cases s<;>simp[tC]
theorem rZ {s:Bool}{n d:Nat}(hd:0<d):(vk s n d).den=d / Nat.gcd n d:=by
 unfold vk;rw[Rat.den_mkRat,if_neg (by omega),uu,Nat.gcd_comm]
theorem MQ {s:Bool}{n d:Nat}(hd:0<d):(vk s n d).num=tC s (n / Nat.gcd n d):=by
 unfold vk;rw[Rat.num_mkRat,if_neg (by omega),uu,Nat.gcd_comm];have hg:Nat.gcd n d ∣ n:=Nat.gcd_dvd_left n d;cases s
 ·simp[tC]
 ·simp only[tC,if_true];rw[Int.neg_ediv_of_dvd (by exact_mod_cast hg)];simp
theorem r9 {s:Bool}{n d:Nat}(hd:0<d):(vk s n d).num.natAbs=n / Nat.gcd n d:=by rw[MQ hd,uu]
theorem AB {s:Bool}{n d:Nat}(hd:0<d):qs (vk s n d)=if n=0 then false else s:=by
 have hg:0<Nat.gcd n d:=Nat.gcd_pos_of_pos_right n hd;unfold qs;rw[MQ hd]
 by_cases h:n=0
 ·subst h;cases s<;>simp[tC]
 ·rw[if_neg h];have:=Nat.div_pos (Nat.le_of_dvd (by omega) (Nat.gcd_dvd_left n d)) hg;cases s
  ·simp[tC];omega
  ·simp only[tC,if_true];simp;omega
theorem AJ {s:Bool}{n d:Nat}(hd:0<d):qz (vk s n d)<=max (sz n) (sz d):=by
 unfold qz;rw[r9 hd,rZ hd];have h1:=oF (Nat.div_le_self n (Nat.gcd n d));have h2:=oF (Nat.div_le_self d (Nat.gcd n d));omega
theorem Fz {s:Bool}{n d:Nat}(ln:sz n<=1000000)(ld:sz d<=1000000)(hd0:0<d):Ca E0 af9 [.d (fq s n d)] (.d (qD (vk s n d)),none):=by
 have o1:=Fw;unfold qD qn qd;rw[AB hd0,r9 hd0,rZ hd0];unfold sz at ln ld;rcases Nat.eq_zero_or_pos n with rfl|hn0
 ·have e2:d / Nat.gcd 0 d=1:=by rw[Nat.gcd_zero_left];exact Nat.div_self hd0
  rw[e2];refine Ca.bO (n:=60) ?_;rw[ak rfl (k187:E0.fn _=_) rfl];simp only[fq,raw,Nat.zero_div,dn,if_true,LD,LL,List.map_nil];generalize List.map (fun(x:Nat)=>D.v (Value.int IntKind.u32 (x:Int))) (enc d)=ds at*;simp -implicitDefEqProofs[f187]
 ·rw[if_neg (by omega)];have hg:0<Nat.gcd n d:=Nat.gcd_pos_of_pos_right n hd0;have lg:(enc (Nat.gcd n d)).length<=1000000:=Nat.le_trans (bI (Nat.le_of_dvd hd0 (Nat.gcd_dvd_right n d))) ld;obtain⟨n1,c1⟩:=(RF n d ln ld).any;have l1:=fO (n:=1) (k:=1) (by omega);obtain⟨n2,c2⟩:=(xx (enc (Nat.gcd n d)) (enc 1) (by omega) (by omega) (aQ _) (aQ _)).any;obtain⟨n3,c3⟩:=(Fs n (Nat.gcd n d) hg ln lg).any;obtain⟨n4,c4⟩:=(Fs d (Nat.gcd n d) hg ld lg).any;have ldl:(enc (d / Nat.gcd n d)).length<=1000000:=Nat.le_trans (bI (Nat.div_le_self _ _)) ld;obtain⟨n5,c5⟩:=(xx (enc (d / Nat.gcd n d)) (enc 1) (by omega) (by omega) (aQ _) (aQ _)).any;replace c1:=c1 (n1+n2+n3+n4+n5) (by omega);replace c2:=c2 (n1+n2+n3+n4+n5) (by omega);replace c3:=c3 (n1+n2+n3+n4+n5) (by omega);replace c4:=c4 (n1+n2+n3+n4+n5) (by omega);replace c5:=c5 (n1+n2+n3+n4+n5) (by omega);generalize n1+n2+n3+n4+n5=N at*;simp only[aT]at c2 c5;rw[Aw]at c2 c5;have k1:=fun m=>AA m (enc n) (by rw[Ne,dR];omega) (by omega)
  have k2:=fun m=>AA m (enc d) (by rw[Ne,dR];omega) (by omega)
  have hln:¬ LL (enc n)=[]:=by
   have:¬ n=0:=by omega
   simp[LL,dR,this]
  refine Ca.bO (n:=N+80) ?_;rw[ak rfl (k187:E0.fn _=_) rfl]
  by_cases h1:Nat.gcd n d=1
  ·have e1:dL 1 1=0:=by simp[dL]
   rw[h1]at c1 c2 c5 ⊢;rw[Nat.div_one]at c5;rw[Nat.div_one,Nat.div_one];rw[Aw]at c1 c2;rw[e1]at c2
   by_cases hd1:d=1
   ·have e2:dL d 1=0:=by rw[hd1];simp[dL]
    rw[e2]at c5;rw[if_pos hd1];simp only[fq,raw,LD]at c1 c2 c5 k1 k2 ⊢;generalize LL (enc n)=ns,LL (enc d)=ds at*;simp only[LL,List.map_nil];simp -implicitDefEqProofs[f187,o1,c1,c2,c5,k1,k2,hln]
   ·have e2:dL d 1=1:=by unfold dL;rw[if_neg (by omega),if_neg (by omega)]
    rw[e2]at c5;rw[if_neg hd1];simp only[fq,raw,LD]at c1 c2 c5 k1 k2 ⊢;generalize LL (enc n)=ns,LL (enc d)=ds at*;simp -implicitDefEqProofs[f187,o1,c1,c2,c5,k1,k2,hln]
  ·have e1:dL (Nat.gcd n d) 1=1:=by unfold dL;rw[if_neg (by omega),if_neg h1]
   rw[e1]at c2;have hdv:Nat.gcd n d ∣ d:=Nat.gcd_dvd_right n d;generalize Nat.gcd n d=g at*
   by_cases hd1:d / g=1
   ·have e2:dL (d / g) 1=0:=by rw[hd1];simp[dL]
    rw[e2]at c5;rw[if_pos hd1];generalize d / g=dd,n / g=nn,n % g=m1,d % g=m2 at*;simp only[fq,raw,LD]at c1 c2 c3 c4 c5 k1 k2 ⊢;generalize LL (enc n)=ns,LL (enc d)=ds,LL (enc g)=gs at*;generalize LL (enc nn)=q1,LL (enc dd)=q2,LL (enc m1)=x1,LL (enc m2)=x2 at*;simp only[LL,List.map_nil];simp -implicitDefEqProofs[f187,o1,c1,c2,c3,c4,c5,k1,k2,hln]
   ·have e2:dL (d / g) 1=1:=by
     have:0<d / g:=Nat.div_pos (Nat.le_of_dvd hd0 hdv) hg;unfold dL;rw[if_neg (by omega),if_neg hd1]
    rw[e2]at c5;rw[if_neg hd1];generalize d / g=dd,n / g=nn,n % g=m1,d % g=m2 at*;simp only[fq,raw,LD]at c1 c2 c3 c4 c5 k1 k2 ⊢;generalize LL (enc n)=ns,LL (enc d)=ds,LL (enc g)=gs at*;generalize LL (enc nn)=q1,LL (enc dd)=q2,LL (enc m1)=x1,LL (enc m2)=x2 at*;simp -implicitDefEqProofs[f187,o1,c1,c2,c3,c4,c5,k1,k2,hln]
abbrev aan:Nat:=186
abbrev af_:ai:=f186
abbrev adu:Nat:=232
abbrev aic:ai:=f232
abbrev af':Nat:=114
abbrev aiV:ai:=f114
abbrev aga:Nat:=191
abbrev aiW:ai:=f191
theorem xD {a b:Nat}(ha:sz a<=1000000)(hb:sz b<=1000000):Ca E0 Rq [.d (LD (enc a)),.d (LD (enc b))] (.d (LD (enc (a*b))),none):=by
 unfold sz at ha hb;have:=G_ (enc a) (enc b) (by omega) (by omega) (aQ _) (aQ _);simpa only[aT] using this
theorem RI {a b:Nat}(ha:sz a<=1000000)(hb:sz b<=1000000):Ca E0 Y6 [.d (LD (enc a)),.d (LD (enc b))] (.d (LD (enc (a+b))),none):=by
 unfold sz at ha hb;have:=Wq (enc a) (enc b) (by omega) (by omega) (aQ _) (aQ _);simpa only[aT] using this
theorem D_ {a b:Nat}(ha:sz a<=1000000)(hb:b<=a):Ca E0 Rl [.d (LD (enc a)),.d (LD (enc b))] (.d (LD (enc (a-b))),none):=by
 unfold sz at ha;have:=Aj (enc a) (enc b) (by omega) (bI hb) (aQ _) (aQ _) (by simpa only[aT] using hb);simpa only[aT] using this
theorem WG {a b:Nat}(ha:sz a<=1000000)(hb:sz b<=1000000):Ca E0 Z7 [.d (LD (enc a)),.d (LD (enc b))] (.d (.v (.int .i64 (dL a b))),none):=by
 unfold sz at ha hb;have:=xx (enc a) (enc b) (by omega) (by omega) (aQ _) (aQ _);simpa only[aT] using this
theorem WH (s:Bool)(n d:Nat):Ca E0 adu [.d (fq s n d)] (.d (fq (!s) n d),none):=by
 refine Ca.bO (n:=60) ?_;rw[ak rfl (k232:E0.fn _=_) rfl];simp only[fq,LD];generalize LL (enc n)=ns;generalize LL (enc d)=ds;simp -implicitDefEqProofs[f232]
def oG (s1:Bool)(a:Nat)(s2:Bool)(b:Nat):Bool:=if s1=s2 then s1 else if b<=a then s1 else s2
def nD (s1:Bool)(a:Nat)(s2:Bool)(b:Nat):Nat:=if s1=s2 then a+b else if b<=a then a-b else b-a
theorem vz {s1 s2:Bool}{a b:Nat}:sz (nD s1 a s2 b)<=max (sz a) (sz b)+1:=by
 unfold nD;split
 ·exact Ku a b
 ·split
  ·have:=oF (Nat.sub_le a b);omega
  ·have:=oF (Nat.sub_le b a);omega
theorem MR (s1 s2:Bool)(a b:Nat):tC (oG s1 a s2 b) (nD s1 a s2 b)=tC s1 a+tC s2 b:=by
 unfold oG nD
 by_cases h:s1=s2
 ·subst h;simp only[if_true];cases s1<;>simp[tC]<;>omega
 ·rw[if_neg h,if_neg h]
  by_cases hab:b<=a
  ·rw[if_pos hab,if_pos hab];cases s1<;>cases s2<;>simp_all[tC]<;>omega
  ·rw[if_neg hab,if_neg hab];cases s1<;>cases s2<;>simp_all[tC]<;>omega
theorem Hq (s1 s2:Bool){n1 d1 n2 d2:Nat}(h1:sz n1<=200000)(h2:sz d1<=200000)(h3:sz n2<=200000)(h4:sz d2<=200000) :
  Ca E0 aan [.d (fq s1 n1 d1),.d (fq s2 n2 d2)] (.d (fq (oG s1 (n1*d2) s2 (n2*d1)) (nD s1 (n1*d2) s2 (n2*d1)) (d1*d2)),none):=by
 have b1:=eP n1 d2;have b2:=eP n2 d1;obtain⟨k1,t1⟩:=(xD (a:=n1) (b:=d2) (by omega) (by omega)).any;obtain⟨k2,t2⟩:=(xD (a:=n2) (b:=d1) (by omega) (by omega)).any;obtain⟨k3,t3⟩:=(xD (a:=d1) (b:=d2) (by omega) (by omega)).any;generalize n1*d2=a,n2*d1=b,d1*d2=d at*;obtain⟨k4,t4⟩:=(RI (a:=a) (b:=b) (by omega) (by omega)).any;obtain⟨k5,t5⟩:=(WG (a:=a) (b:=b) (by omega) (by omega)).any
 by_cases hs:s1=s2
 ·subst hs;replace t1:=t1 (k1+k2+k3+k4) (by omega);replace t2:=t2 (k1+k2+k3+k4) (by omega);replace t3:=t3 (k1+k2+k3+k4) (by omega);replace t4:=t4 (k1+k2+k3+k4) (by omega);generalize k1+k2+k3+k4=N at*;refine Ca.bO (n:=N+80) ?_;rw[ak rfl (k186:E0.fn _=_) rfl];simp only[fq,oG,nD,if_true,LD]at*;generalize LL (enc n1)=x1,LL (enc n2)=x2,LL (enc d1)=x3,LL (enc d2)=x4,LL (enc (a+b))=x5,LL (enc a)=x6,LL (enc b)=x7 at*;generalize LL (enc d)=x8 at*;simp -implicitDefEqProofs[f186,t1,t2,t3,t4]
 ·have hbq:(s1==s2)=false:=by simpa using hs
  by_cases hab:b<=a
  ·obtain⟨k6,t6⟩:=(D_ (a:=a) (b:=b) (by omega) hab).any;replace t1:=t1 (k1+k2+k3+k5+k6) (by omega);replace t2:=t2 (k1+k2+k3+k5+k6) (by omega);replace t3:=t3 (k1+k2+k3+k5+k6) (by omega);replace t5:=t5 (k1+k2+k3+k5+k6) (by omega);replace t6:=t6 (k1+k2+k3+k5+k6) (by omega);generalize k1+k2+k3+k5+k6=N at*;have hc:(0:Int)<=dL a b:=by unfold dL;rw[if_neg (by omega)];split<;>omega
   refine Ca.bO (n:=N+80) ?_;rw[ak rfl (k186:E0.fn _=_) rfl];simp only[fq,oG,nD,if_neg hs,if_pos hab,LD]at*;generalize dL a b=cc,LL (enc n1)=x1,LL (enc n2)=x2,LL (enc d1)=x3,LL (enc d2)=x4,LL (enc (a-b))=x5,LL (enc a)=x6,LL (enc b)=x7 at*;generalize LL (enc d)=x8 at*;simp -implicitDefEqProofs[f186,t1,t2,t3,t5,t6,hbq,hc]
  ·obtain⟨k6,t6⟩:=(D_ (a:=b) (b:=a) (by omega) (by omega)).any;replace t1:=t1 (k1+k2+k3+k5+k6) (by omega);replace t2:=t2 (k1+k2+k3+k5+k6) (by omega);replace t3:=t3 (k1+k2+k3+k5+k6) (by omega);replace t5:=t5 (k1+k2+k3+k5+k6) (by omega);replace t6:=t6 (k1+k2+k3+k5+k6) (by omega);generalize k1+k2+k3+k5+k6=N at*;have hc:dL a b=-1:=by unfold dL;rw[if_pos (by omega)]
   rw[hc]at t5;refine Ca.bO (n:=N+80) ?_;rw[ak rfl (k186:E0.fn _=_) rfl];simp only[fq,oG,nD,if_neg hs,if_neg hab,LD]at*;generalize LL (enc n1)=x1,LL (enc n2)=x2,LL (enc d1)=x3,LL (enc d2)=x4,LL (enc (b-a))=x5,LL (enc a)=x6,LL (enc b)=x7 at*;generalize LL (enc d)=x8 at*;simp -implicitDefEqProofs[f186,t1,t2,t3,t5,t6,hbq]
theorem mU (x:Rat):tC (qs x) x.num.natAbs=x.num:=by
 unfold tC qs
 by_cases h:x.num<0
 ·rw[if_pos (by simpa using h)];omega
 ·rw[if_neg (by simpa using h)];omega
theorem MS (s1 s2:Bool)(a b:Nat):tC (s1 != s2) (a*b)=tC s1 a*tC s2 b:=by
 cases s1<;>cases s2<;>simp[tC,Int.neg_mul,Int.mul_neg]
theorem den_pos (x:Rat):0<x.den:=Nat.pos_of_ne_zero x.den_nz
theorem MU (x y:Rat):vk (qs x != qs y) (x.num.natAbs*y.num.natAbs) (x.den*y.den)=x*y:=by
 unfold vk;rw[MS,mU,mU,Rat.mul_def']
theorem FB (x y:Rat):vk (oG (qs x) (x.num.natAbs*y.den) (qs y) (y.num.natAbs*x.den)) (nD (qs x) (x.num.natAbs*y.den) (qs y) (y.num.natAbs*x.den)) (x.den*y.den)=x+y:=by
 unfold vk;rw[MR,Rat.add_def']
 congr 1
 have h:=fun(s:Bool) (a b:Nat)=>show tC s (a*b)=tC s a*(b:Int) by cases s<;>simp[tC,Int.neg_mul]
 rw[h,h,mU,mU]
theorem MV (x y:Rat):vk (oG (qs x) (x.num.natAbs*y.den) (!qs y) (y.num.natAbs*x.den)) (nD (qs x) (x.num.natAbs*y.den) (!qs y) (y.num.natAbs*x.den)) (x.den*y.den)=x-y:=by
 unfold vk;rw[MR,Rat.sub_def']
 congr 1
 have h:=fun(s:Bool) (a b:Nat)=>show tC s (a*b)=tC s a*(b:Int) by cases s<;>simp[tC,Int.neg_mul]
 have h2:=fun(s:Bool) (a:Nat)=>show tC (!s) a=- tC s a by cases s<;>simp[tC]
 rw[h,h,h2,mU,mU,Int.neg_mul];omega
theorem AL (x y:Rat):qz (x*y)<=qz x+qz y:=by
 rw[<-MU];refine Nat.le_trans (AJ (Nat.mul_pos (den_pos x) (den_pos y))) ?_;have h1:=eP x.num.natAbs y.num.natAbs;have h2:=eP x.den y.den;unfold qz;omega
theorem oH (x y:Rat):qz (x+y)<=qz x+qz y+1:=by
 rw[<-FB];refine Nat.le_trans (AJ (Nat.mul_pos (den_pos x) (den_pos y))) ?_;have h1:=eP x.num.natAbs y.den;have h2:=eP y.num.natAbs x.den;have h3:=eP x.den y.den;have h4:=@vz (qs x) (qs y) (x.num.natAbs*y.den) (y.num.natAbs*x.den);unfold qz;omega
theorem RJ (x y:Rat):qz (x-y)<=qz x+qz y+1:=by
 rw[<-MV];refine Nat.le_trans (AJ (Nat.mul_pos (den_pos x) (den_pos y))) ?_;have h1:=eP x.num.natAbs y.den;have h2:=eP y.num.natAbs x.den;have h3:=eP x.den y.den;have h4:=@vz (qs x) (!qs y) (x.num.natAbs*y.den) (y.num.natAbs*x.den);unfold qz;omega
theorem FC (x y:Rat)(hx:qz x<=100000)(hy:qz y<=100000):Ca E0 af' [.d (qD x),.d (qD y)] (.d (qD (x+y)),none):=by
 obtain⟨k1,t1⟩:=(Az x (by omega)).any;obtain⟨k2,t2⟩:=(Az y (by omega)).any;have hx1:sz x.num.natAbs<=100000:=Nat.le_trans (Nat.le_max_left _ _) hx;have hx2:sz x.den<=100000:=Nat.le_trans (Nat.le_max_right _ _) hx;have hy1:sz y.num.natAbs<=100000:=Nat.le_trans (Nat.le_max_left _ _) hy;have hy2:sz y.den<=100000:=Nat.le_trans (Nat.le_max_right _ _) hy;have b1:=eP x.num.natAbs y.den;have b2:=eP y.num.natAbs x.den;have b3:=eP x.den y.den;have b4:=@vz (qs x) (qs y) (x.num.natAbs*y.den) (y.num.natAbs*x.den);obtain⟨k3,t3⟩:=(Hq (qs x) (qs y) (n1:=x.num.natAbs) (d1:=x.den) (n2:=y.num.natAbs) (d2:=y.den) (by omega) (by omega) (by omega) (by omega)).any;obtain⟨k5,t5⟩:=(Fz (s:=oG (qs x) (x.num.natAbs*y.den) (qs y) (y.num.natAbs*x.den)) (n:=nD (qs x) (x.num.natAbs*y.den) (qs y) (y.num.natAbs*x.den)) (d:=x.den*y.den) (by omega) (by omega) (Nat.mul_pos (den_pos x) (den_pos y))).any;rw[FB]at t5;replace t1:=t1 (k1+k2+k3+k5) (by omega);replace t2:=t2 (k1+k2+k3+k5) (by omega);replace t3:=t3 (k1+k2+k3+k5) (by omega);replace t5:=t5 (k1+k2+k3+k5) (by omega);generalize k1+k2+k3+k5=N,nD (qs x) (x.num.natAbs*y.den) (qs y) (y.num.natAbs*x.den)=n,oG (qs x) (x.num.natAbs*y.den) (qs y) (y.num.natAbs*x.den)=ss,x.den*y.den=d at*;refine Ca.bO (n:=N+80) ?_;rw[ak rfl (k114:E0.fn _=_) rfl];simp only[fqR,fq,qD,raw,LD]at*;generalize qs x=s1,qs y=s2,LL (enc x.num.natAbs)=x1,LL (enc y.num.natAbs)=x2,LL (enc x.den)=x3,LL (enc y.den)=x4,LL (qn x)=z1,LL (qn y)=z2,LL (qd x)=z3,LL (qd y)=z4,LL (enc n)=x7,LL (enc d)=x8,LL (qn (x+y))=x9,LL (qd (x+y))=y1,qs (x+y)=sg at*;simp -implicitDefEqProofs[f114,t1,t2,t3,t5]
theorem WI (x y:Rat)(hx:qz x<=100000)(hy:qz y<=100000):Ca E0 aga [.d (qD x),.d (qD y)] (.d (qD (x-y)),none):=by
 obtain⟨k1,t1⟩:=(Az x (by omega)).any;obtain⟨k2,t2⟩:=(Az y (by omega)).any;have hx1:sz x.num.natAbs<=100000:=Nat.le_trans (Nat.le_max_left _ _) hx;have hx2:sz x.den<=100000:=Nat.le_trans (Nat.le_max_right _ _) hx;have hy1:sz y.num.natAbs<=100000:=Nat.le_trans (Nat.le_max_left _ _) hy;have hy2:sz y.den<=100000:=Nat.le_trans (Nat.le_max_right _ _) hy;have b1:=eP x.num.natAbs y.den;have b2:=eP y.num.natAbs x.den;have b3:=eP x.den y.den;have b4:=@vz (qs x) (!qs y) (x.num.natAbs*y.den) (y.num.natAbs*x.den);obtain⟨k3,t3⟩:=(Hq (qs x) (!qs y) (n1:=x.num.natAbs) (d1:=x.den) (n2:=y.num.natAbs) (d2:=y.den) (by omega) (by omega) (by omega) (by omega)).any;obtain⟨k4,t4⟩:=(WH (qs y) y.num.natAbs y.den).any;obtain⟨k5,t5⟩:=(Fz (s:=oG (qs x) (x.num.natAbs*y.den) (!qs y) (y.num.natAbs*x.den)) (n:=nD (qs x) (x.num.natAbs*y.den) (!qs y) (y.num.natAbs*x.den)) (d:=x.den*y.den) (by omega) (by omega) (Nat.mul_pos (den_pos x) (den_pos y))).any;rw[MV]at t5;replace t1:=t1 (k1+k2+k3+k4+k5) (by omega);replace t2:=t2 (k1+k2+k3+k4+k5) (by omega);replace t3:=t3 (k1+k2+k3+k4+k5) (by omega);replace t4:=t4 (k1+k2+k3+k4+k5) (by omega);replace t5:=t5 (k1+k2+k3+k4+k5) (by omega);generalize k1+k2+k3+k4+k5=N,nD (qs x) (x.num.natAbs*y.den) (!qs y) (y.num.natAbs*x.den)=n,oG (qs x) (x.num.natAbs*y.den) (!qs y) (y.num.natAbs*x.den)=ss,x.den*y.den=d at*;refine Ca.bO (n:=N+80) ?_;rw[ak rfl (k191:E0.fn _=_) rfl];simp only[fqR,fq,qD,raw,LD]at*;generalize (!qs y)=s3,qs x=s1 at*;generalize qs y=s2,LL (enc x.num.natAbs)=x1,LL (enc y.num.natAbs)=x2,LL (enc x.den)=x3,LL (enc y.den)=x4,LL (qn x)=z1,LL (qn y)=z2,LL (qd x)=z3,LL (qd y)=z4,LL (enc n)=x7,LL (enc d)=x8,LL (qn (x-y))=x9,LL (qd (x-y))=y1,qs (x-y)=sg at*;simp -implicitDefEqProofs[f191,t1,t2,t3,t4,t5]
theorem vB (x:Rat)(hx:qz x<=1000000):Ca E0 134 [.d (qD x)] (.d (.v (.int .i64 x.num.sign)),none):=by
 obtain⟨N,t⟩:=(Az x hx).get;refine Ca.bO (n:=N+60) ?_;rw[ak rfl (k134:E0.fn _=_) rfl];simp only[fqR,fq,qD,raw,LD]at*;have hq:enc x.num.natAbs=qn x:=rfl;rw[hq]at t;have hs:(LL (qn x)=[]/\x.num.sign=0)\/(LL (qn x)≠[]/\qs x=true/\x.num.sign=-1)\/(LL (qn x)≠[]/\qs x=false/\x.num.sign=1):=by
  have hnil:LL (qn x)=[]↔x.num.natAbs=0:=by simp only[LL,List.map_eq_nil_iff];exact dR
  rw[Ne,hnil];rcases Int.lt_trichotomy x.num 0 with h|h|h
  ·exact .inr (.inl ⟨by omega,decide_eq_true h,Int.sign_eq_neg_one_of_neg h⟩)
  ·exact .inl ⟨by omega,by rw[h];rfl⟩
  ·exact .inr (.inr ⟨by omega,decide_eq_false (by omega),Int.sign_eq_one_of_pos h⟩)
 generalize LL (qn x)=z1,LL (qd x)=z3,LL (enc x.den)=x3,qs x=s at*;rcases hs with ⟨a,b⟩|⟨a,b,c⟩|⟨a,b,c⟩
 ·rw[b];subst a;simp -implicitDefEqProofs[f134,t]
 ·rw[c];subst b;simp -implicitDefEqProofs[f134,t,a]
 ·rw[c];subst b;simp -implicitDefEqProofs[f134,t,a]
theorem yJ (x y:Rat)(hx:qz x<=100000)(hy:qz y<=100000):Ca E0 135 [.d (qD x),.d (qD y)] (.d (.v (.int .i64 (x-y).num.sign)),none):=by
 obtain⟨k1,t1⟩:=(WI x y hx hy).any;have:=RJ x y;obtain⟨k2,t2⟩:=(vB (x-y) (by omega)).any;replace t1:=t1 (k1+k2) (by omega);replace t2:=t2 (k1+k2) (by omega);generalize k1+k2=N at*;refine Ca.bO (n:=N+80) ?_;rw[ak rfl (k135:E0.fn _=_) rfl];generalize (x-y).num.sign=res at*;simp only[qD,raw,LD]at*;generalize LL (qn x)=z1,LL (qn y)=z2,LL (qd x)=z3,LL (qd y)=z4,LL (qn (x-y))=x9,LL (qd (x-y))=y1 at*;simp -implicitDefEqProofs[f135,t1,t2]
theorem Hr (x:Rat):vk (qs x) x.num.natAbs x.den=x:=by
 unfold vk;rw[mU,Rat.mkRat_self]
theorem WJ (x y:Rat)(hy:y≠0):vk (qs x != qs y) (x.num.natAbs*y.den) (x.den*y.num.natAbs)=x / y:=by
 have hyn:y.num≠0:=fun h=>hy (Rat.num_eq_zero.1 h)
 have e1:tC (qs x != qs y) (x.num.natAbs*y.den)=x.num*(y.den*y.num.sign):=by
  have h:=MS (qs x) (qs y) x.num.natAbs y.den;rw[h,mU]
  congr 1
  rcases Int.lt_trichotomy y.num 0 with h|h|h
  ·rw[show qs y=true from decide_eq_true h,Int.sign_eq_neg_one_of_neg h];simp[tC]
  ·exact absurd h hyn
  ·rw[show qs y=false from decide_eq_false (by omega),Int.sign_eq_one_of_pos h];simp[tC]
 have e2:((x.den*y.num.natAbs:Nat):Int)=x.den*(y.num*y.num.sign):=by
  rw[Int.mul_sign_self];simp
 have hs:((y.num.sign:Int):Rat)≠0:=by
  intro e;have:y.num.sign=0:=by exact_mod_cast e
  exact hyn (Int.sign_eq_zero_iff_zero.1 this)
 have hxd:((x.den:Int):Rat)≠0:=by have:=x.den_nz;exact_mod_cast this
 have hyd:((y.den:Int):Rat)≠0:=by have:=y.den_nz;exact_mod_cast this
 have aiX:((y.num:Int):Rat)≠0:=by exact_mod_cast hyn
 have hx:x=(x.num:Rat) / ((x.den:Int):Rat):=by
  conv=>lhs;rw[<-Rat.mkRat_self x,Rat.mkRat_eq_div]
  rfl
 have hy':y=(y.num:Rat) / ((y.den:Int):Rat):=by
  conv=>lhs;rw[<-Rat.mkRat_self y,Rat.mkRat_eq_div]
  rfl
 unfold vk;rw[Rat.mkRat_eq_div,e1];have e3:(((x.den*y.num.natAbs:Nat)):Rat)=((x.den*(y.num*y.num.sign):Int):Rat):=by rw[<-e2];rfl
 rw[e3];simp only[Rat.intCast_mul]
 conv=>rhs;rw[hx,hy']
 generalize ((y.num.sign:Int):Rat)=a,((x.den:Int):Rat)=b,((y.den:Int):Rat)=c,((y.num:Int):Rat)=d,((x.num:Int):Rat)=e at*;grind
theorem aao (x:Rat):qz (-x)=qz x:=by simp[qz]
theorem MW {n:Nat}(h:n<18446744073709551616):trim [n % 4294967296,n / 4294967296]=enc n:=by
 rw[cB (by intro y hy;simp at hy;omega)]
 congr 1
 simp[val];omega
theorem Ht (v:Int)(hv:-9223372036854775808<=v/\v<9223372036854775808):Ca E0 227 [.d (.v (.int .i64 v))] (.d (.t [.v (.bool (decide (v<0))),LD (enc v.natAbs)]),none):=by
 obtain⟨n0,hc⟩:=(gY [v.natAbs % 4294967296,v.natAbs / 4294967296] (by simp)).get;rw[MW (by omega)]at hc;have hn:v.natAbs<18446744073709551616:=by omega
 refine Ca.bO (n:=n0+60) ?_;rw[ak rfl (k227:E0.fn _=_) rfl];have w2:ah .u32 (v.natAbs:Int)=((v.natAbs % 4294967296:Nat):Int):=by rw[dD];omega
 have w3:Int.fdiv (v.natAbs:Int) 4294967296=((v.natAbs / 4294967296:Nat):Int):=by
  rw[Int.fdiv_eq_ediv_of_nonneg _ (by omega)];omega
 have w4:ah .u32 ((v.natAbs / 4294967296:Nat):Int)=((v.natAbs / 4294967296:Nat):Int):=wrap_u32 (by omega);have hl:(LL (enc v.natAbs))=LL (enc v.natAbs):=rfl;simp only[LD,LL,List.map_cons,List.map_nil]at hc ⊢;generalize List.map (fun(x:Nat)=>D.v (Value.int IntKind.u32 (x:Int))) (enc v.natAbs)=res at*
 by_cases h:v<0
 ·have w1:ah .u64 v=v+18446744073709551616:=by rw[fM];omega
  have w5:IntKind.wrap .u64 (-(v+18446744073709551616))=(v.natAbs:Int):=by rw[<-b_,fM];omega
  have hd:decide (v<0)=true:=decide_eq_true h;rw[hd];generalize v.natAbs / 4294967296=hi,v.natAbs % 4294967296=lo at*;generalize v.natAbs=va at*;simp -implicitDefEqProofs[IntKind.bits,f227,tN,h,w1,w2,w3,w4,w5,hc]
 ·have w1:ah .u64 v=(v.natAbs:Int):=by rw[fM];omega
  have hd:decide (v<0)=false:=decide_eq_false h;rw[hd];generalize v.natAbs / 4294967296=hi,v.natAbs % 4294967296=lo at*;generalize v.natAbs=va at*;simp -implicitDefEqProofs[IntKind.bits,f227,tN,h,w1,w2,w3,w4,hc]
def qH (a b:Int):Rat:=vk (decide (a<0) != decide (b<0)) a.natAbs b.natAbs
theorem FD {v:Int}(hv:-9223372036854775808<=v/\v<9223372036854775808):sz v.natAbs<=2:=tQ (k:=2) (by
 have:(4294967296:Nat) ^ 2=18446744073709551616:=by rfl
 omega)
theorem WK (a b:Int)(ha:-9223372036854775808<=a/\a<9223372036854775808)(hb:-9223372036854775808<=b/\b<9223372036854775808)(h0:b≠0) :
  Ca E0 184 [.d (.v (.int .i64 a)),.d (.v (.int .i64 b))] (.d (.t [qD (qH a b),.v (.int .i64 0)]),none):=by
 have l1:=FD ha;have l2:=FD hb;obtain⟨Kq,_,t1,t2,t3⟩:=((Ht a ha).j ((Ht b hb).j ((Fz (s:=decide (a<0) != decide (b<0)) (n:=a.natAbs) (d:=b.natAbs) (by omega) (by omega) (by omega)).any))).at 0;have e:vk (decide (a<0) != decide (b<0)) a.natAbs b.natAbs=qH a b:=rfl;rw[e]at t3;generalize Kq=N at*;refine Ca.bO (n:=N+80) ?_;rw[ak rfl (k184:E0.fn _=_) rfl];have hb0:(b==0)=false:=by simpa using h0
 simp only[fq,qD,raw,LD]at*;generalize LL (qn (qH a b))=x9,LL (qd (qH a b))=y1,qs (qH a b)=sg,LL (enc a.natAbs)=x1,LL (enc b.natAbs)=x2,decide (a<0)=s1,decide (b<0)=s2 at*;simp only[bne]at t3;simp -implicitDefEqProofs[f184,tN,t1,t2,t3,hb0]
theorem RL (a b:Int)(h0:b≠0):qH a b=(a:Rat) / (b:Rat):=by
 have h:∀ v:Int,qs ((v:Int):Rat)=decide (v<0)/\((v:Int):Rat).num=v/\((v:Int):Rat).den=1:=fun v=>⟨by unfold qs;rfl,rfl,rfl⟩
 have hb:((b:Int):Rat)≠0:=by exact_mod_cast h0
 rw[<-WJ _ _ hb,(h a).1,(h b).1,(h a).2.1,(h a).2.2,(h b).2.1,(h b).2.2];simp[qH]
end Fi.S
