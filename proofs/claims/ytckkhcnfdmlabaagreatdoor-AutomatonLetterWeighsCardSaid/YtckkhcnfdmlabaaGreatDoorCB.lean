import Derived.Test.YtckkhcnfdmlabaaGreatDoorCA
set_option linter.unusedVariables false
set_option linter.unusedSimpArgs false
noncomputable section
namespace Fi.S
open Go Fi
set_option maxHeartbeats 8000000
theorem Bi {n k:Nat}(h1:4294967296 ^ k<=n)(h2:n<4294967296 ^ (k+1)):(enc n).length=k+1:=by
 have a:=fU h2;rcases Nat.lt_or_ge k (enc n).length with h|h
 ·omega
 ·exfalso;have h3:=oK (aU n);rw[aX]at h3;have h4:=Nat.pow_le_pow_right (n:=4294967296) (by omega) h;omega
theorem BU {u:Nat}(h:0<u):enc u=u % 4294967296::enc (u / 4294967296):=by
 rw[enc,if_neg (by omega)]
theorem wZ (n:Nat):∀ (u:Nat),bG (enc u) n=u / 4294967296 ^ n % 4294967296:=by
 induction n with
 | zero =>
  intro u;rcases Nat.eq_zero_or_pos u with rfl|h
  ·simp[cK,bG]
  ·rw[BU h];simp[bG]
 | succ n ih =>
  intro u;rcases Nat.eq_zero_or_pos u with rfl|h
  ·simp[cK,bG]
  ·have:bG (enc u) (n+1)=bG (enc (u / 4294967296)) n:=by rw[BU h];simp[bG]
   rw[this,ih,Nat.div_div_eq_div_mul,Nat.pow_succ,Nat.mul_comm]
theorem X0 (k:Nat):∀ {y:Nat},4294967296 ^ k<=y->y<4294967296 ^ (k+1)->∃ lo,enc y=lo++[y / 4294967296 ^ k]/\lo.length=k:=by
 induction k with
 | zero =>
  intro y h1 h2;simp at h1 h2;refine⟨[],?_,rfl⟩;rw[jD (by omega) (by omega)];simp
 | succ k ih =>
  intro y h1 h2;have hp:0<4294967296 ^ (k+1):=Nat.pow_pos (by omega);obtain⟨lo,e,hl⟩:=ih (y:=y / 4294967296) (by rw[Nat.le_div_iff_mul_le (by omega),<-Nat.pow_succ];exact h1) (by rw[Nat.div_lt_iff_lt_mul (by omega),<-Nat.pow_succ];exact h2);refine⟨y % 4294967296::lo,?_,by simp[hl]⟩;rw[BU (by omega),e,Nat.div_div_eq_div_mul,Nat.pow_succ,Nat.mul_comm (4294967296 ^ k)];rfl
theorem IV {x:Nat}(h:0<x):2 ^ (fV x-1)<=x/\x<2 ^ fV x:=by
 unfold fV;rw[if_neg (by omega)];exact⟨Nat.log2_self_le (by omega),Nat.lt_log2_self⟩
theorem SX {y k:Nat}(h1:4294967296 ^ k<=y)(h2:y<4294967296 ^ (k+1)) :
  y*2 ^ (32-fV (y / 4294967296 ^ k))<4294967296 ^ (k+1)/\4294967296 ^ k<=y*2 ^ (32-fV (y / 4294967296 ^ k)):=by
 have hp:0<4294967296 ^ k:=Nat.pow_pos (by omega);have ht0:0<y / 4294967296 ^ k:=Nat.div_pos h1 hp;have ht1:y / 4294967296 ^ k<4294967296:=by rw[Nat.div_lt_iff_lt_mul hp,Nat.mul_comm,<-Nat.pow_succ];exact h2
 have hb:=IV ht0;have hb2:=Bh ht1;have hy:y<(y / 4294967296 ^ k+1)*4294967296 ^ k:=by
  have:=Nat.lt_mul_div_succ y hp;rw[Nat.mul_comm];exact this
 generalize y / 4294967296 ^ k=t at*;have hq:2 ^ fV t*2 ^ (32-fV t)=4294967296:=by rw[<-Nat.pow_add,show fV t+(32-fV t)=32 by omega]
 have hr:0<2 ^ (32-fV t):=Nat.pow_pos (by omega);generalize 2 ^ (32-fV t)=r,2 ^ fV t=s at*;constructor
 ·rw[Nat.pow_succ]
  calc y*r<(t+1)*4294967296 ^ k*r:=Nat.mul_lt_mul_of_pos_right hy hr
   _<=s*4294967296 ^ k*r:=Nat.mul_le_mul_right _ (Nat.mul_le_mul_right _ hb.2)
   _=4294967296 ^ k*4294967296:=by rw[Nat.mul_right_comm,hq,Nat.mul_comm]
 ·exact Nat.le_trans h1 (Nat.le_mul_of_pos_right _ hr)
theorem SY {u v k j:Nat}(hv:4294967296 ^ k<=v)(hu:u<v*4294967296 ^ j*4294967296) :
  u / (v*4294967296 ^ j)<=min (u / 4294967296 ^ (j+k) / (v / 4294967296 ^ k)) 4294967295:=by
 have hp:0<4294967296 ^ k:=Nat.pow_pos (by omega);have hp2:0<4294967296 ^ j:=Nat.pow_pos (by omega);have hvt:0<v / 4294967296 ^ k:=Nat.div_pos hv hp;have hw:0<v*4294967296 ^ j:=Nat.mul_pos (by omega) hp2;have h1:u / (v*4294967296 ^ j)<4294967296:=by rw[Nat.div_lt_iff_lt_mul hw,Nat.mul_comm];exact hu
 have h2:=Nat.div_mul_le_self u (v*4294967296 ^ j);have h3:=Nat.div_mul_le_self v (4294967296 ^ k);have:u / (v*4294967296 ^ j)<=u / 4294967296 ^ (j+k) / (v / 4294967296 ^ k):=by
  rw[Nat.le_div_iff_mul_le hvt,Nat.le_div_iff_mul_le (Nat.pow_pos (by omega))];generalize u / (v*4294967296 ^ j)=d,v / 4294967296 ^ k=t at*;rw[Nat.pow_add];generalize 4294967296 ^ k=K,4294967296 ^ j=J at*
  calc d*t*(J*K)=d*(t*K*J):=by grind
   _<=d*(v*J):=Nat.mul_le_mul_left _ (Nat.mul_le_mul_right _ h3)
   _<=u:=h2
 omega
theorem Pg {u n:Nat}(h:u<4294967296 ^ (n+2)):bG (enc u) (n+1)*4294967296+bG (enc u) n=u / 4294967296 ^ n/\bG (enc u) (n+1)<4294967296/\bG (enc u) n<4294967296:=by
 rw[wZ,wZ];have hp:0<4294967296 ^ n:=Nat.pow_pos (by omega);have h1:u / 4294967296 ^ (n+1)=u / 4294967296 ^ n / 4294967296:=by rw[Nat.div_div_eq_div_mul,Nat.pow_succ]
 have h2:u / 4294967296 ^ n<4294967296*4294967296:=by
  rw[Nat.div_lt_iff_lt_mul hp];rw[Nat.pow_add]at h;have e:(4294967296:Nat) ^ 2=4294967296*4294967296:=by rfl
  rw[e,Nat.mul_comm]at h;exact h
 rw[h1];generalize u / 4294967296 ^ n=t at*;have h3:t / 4294967296<4294967296:=by omega
 omega
theorem S9 {u w X Q B:Nat}(hB:X=Q*B*w+u):X=(u / w+B*Q)*w+u % w:=by
 have:=Nat.div_add_mod u w;rw[Nat.add_mul,Nat.mul_comm B Q,Nat.mul_comm (u / w) w];omega
end Fi.S
namespace Fi.S
open Go Fi
set_option maxHeartbeats 8000000
def AX:aG:=z_.body.r.r.r.r.r.l.r.bl.lp
def oiB:aG:=AX.r.l.bl.r.r.r.l.bl.lp
def X3 (up u v:Nat)(es:List D)(L j g p:Nat)(t:FV):St:=(st0 [.u,.u,.ls (.loc 0) 0 1 0 L,.u,.u,.u,.d (.v (.int .i64 up)),.d (LD (enc u)),.d (LD (enc v)),.d (.v (.int .i64 j)),.u,.d (.v (.int .u64 g)),.d (LD (enc p)),.u,.u,t] [.row 0 1 es])
theorem Lb (up u v L j d:Nat)(es:List D)(hv:0<v)(hj:j<=100000000)(lu:(enc u).length<=100000000)(lv:(enc v).length<=100000000)(lw:(enc (v*4294967296 ^ j*4294967295)).length<=100000000)
  (hd:d=u / (v*4294967296 ^ j)) (g:Nat) (hg:d<=g) (hg2:g<=4294967295) :
  Ex E0 (.loop oiB) (X3 up u v es L j g (v*4294967296 ^ j*g) .u) (.exit 2,X3 up u v es L j d (v*4294967296 ^ j*d) (.d (.v (.bool false)))):=by
 have hw:0<v*4294967296 ^ j:=Nat.mul_pos hv (Nat.pow_pos (by omega));have hl:=Bf (enc v) (32*j) (by omega) lv (aU _);rw[aX,Nat.pow_mul,show(2:Nat) ^ 32=4294967296 by rfl]at hl;generalize v*4294967296 ^ j=w at*;have key:=Ex.inv (E:=E0) (b:=oiB) (S:=fun g=>X3 up u v es L j g (w*g) .u) (fun g=>g) (fun g=>d<=g/\g<=4294967295) (fun r=>r=(.exit 2,X3 up u v es L j d (w*d) (.d (.v (.bool false))))) ?_ g ⟨hg,hg2⟩
 ·obtain⟨r,hr,rfl⟩:=key;exact hr
 ·clear hg hg2 g;rintro g ⟨h1,h2⟩;have lp:(enc (w*g)).length<=100000000:=Nat.le_trans (bL (Nat.mul_le_mul_left w h2)) lw;obtain⟨n1,hc⟩:=(yU (enc u) (enc (w*g)) (by omega) (by omega) (aU _) (aU _)).any;rw[aX,aX]at hc
  by_cases hlt:d<g
  ·have hu:u<w*g:=by rw[hd,Nat.div_lt_iff_lt_mul hw,Nat.mul_comm]at hlt;exact hlt
   have hc1:dJ u (w*g)=-1:=by unfold dJ;rw[if_pos hu]
   rw[hc1]at hc;have hle:w<=w*g:=Nat.le_mul_of_pos_right w (by omega);obtain⟨n2,hl⟩:=hl.any;obtain⟨n3,hm⟩:=(BN (enc (w*g)) (enc w) (by omega) (bL hle) (aU _) (aU _) (by rw[aX,aX];exact hle)).any;have hsub:w*g-w=w*(g-1):=by rw[Nat.mul_sub,Nat.mul_one]
   rw[aX,aX,hsub]at hm;replace hc:=hc (n1+n2+n3) (by omega);replace hl:=hl (n1+n2+n3) (by omega);replace hm:=hm (n1+n2+n3) (by omega);generalize n1+n2+n3=N at*;refine .inl ⟨g-1,Ex.of (n:=N+60) ?_,by omega,by omega,by omega⟩;have w1:ak .u64 ((g:Int)-1)=((g-1:Nat):Int):=by rw[wrap_u64 (by omega)];omega
   have w2:ak .i64 (32*(j:Int))=((32*j:Nat):Int):=by rw[wrap_i64 (by omega)];omega
   clear hc1 hsub lp lw hd;unfold X3;simp only[LD]at hc hl hm ⊢;generalize LL (enc u)=us,LL (enc v)=vs,LL (enc w)=ws,LL (enc (w*g))=ps,LL (enc (w*(g-1)))=ps' at*;generalize g-1=g',32*j=j32 at*;simp -implicitDefEqProofs[AX,oiB,f226,hc,hl,hm,w1,w2]
  ·have hu:¬ u<w*g:=by rw[hd,Nat.div_lt_iff_lt_mul hw,Nat.mul_comm]at hlt;exact hlt
   have hg:g=d:=by omega
   have hc1:(dJ u (w*g):Int)=0\/dJ u (w*g)=1:=by unfold dJ;rw[if_neg hu];split<;>simp
   replace hc:=hc n1 (by omega);refine .inr ⟨_,Ex.of (n:=n1+60) ?_,by simp,rfl⟩;rw[<-hg];clear lp lw hd hg;unfold X3;simp only[LD]at hc ⊢;generalize LL (enc u)=us,LL (enc v)=vs,LL (enc (w*g))=ps at*;rcases hc1 with e|e<;>rw[e]at hc<;>simp -implicitDefEqProofs[AX,oiB,f226,hc]
def BV (up u v:Nat)(es:List D)(L:Nat)(k:Int)(t:FV):St:=(st0 [.u,.u,.ls (.loc 0) 0 1 0 L,.u,.u,.u,.d (.v (.int .i64 up)),.d (LD (enc u)),.d (LD (enc v)),.d (.v (.int .i64 k)),.u,.u,.u,.u,t,.u] [.row 0 1 es])
theorem Lc (up u v k L j:Nat)(es:List D)(hv:4294967296 ^ k<=v)(hv2:v<4294967296 ^ (k+1))(hj:j<=100000000)(hk:k<=100000000)(lu:(enc u).length<=100000000)(hu:u<4294967296 ^ (j+k+2)) :
  Ex E0 AX.r.l.bl.r.l {BV up u v es L j .u with vars:=[.u,.u,.ls (.loc 0) 0 1 0 L,.u,.u,.u,.d (.v (.int .i64 up)),.d (LD (enc u)),.d (LD (enc v)),.d (.v (.int .i64 j)),.d (.v (.int .i64 ((j+k+1:Nat):Int))),.u,.u,.u,.u,.u]}
   (.norm,{BV up u v es L j .u with vars:=[.u,.u,.ls (.loc 0) 0 1 0 L,.u,.u,.u,.d (.v (.int .i64 up)),.d (LD (enc u)),.d (LD (enc v)),.d (.v (.int .i64 j)),.u,.d (.v (.int .u64 ((min (u / 4294967296 ^ (j+k) / (v / 4294967296 ^ k)) 4294967295:Nat):Int))),.u,.u,.u,.u]}):=by
 have lv:(LL (enc v)).length=k+1:=by simp[LL,Bi hv hv2]
 have lv':=Bi hv hv2;obtain⟨e1,b1,b2⟩:=Pg hu;have e3:bG (enc v) k=v / 4294967296 ^ k:=by
  rw[wZ,Nat.mod_eq_of_lt];rw[Nat.div_lt_iff_lt_mul (Nat.pow_pos (by omega)),Nat.mul_comm,<-Nat.pow_succ];exact hv2
 have b3:v / 4294967296 ^ k<4294967296:=by rw[<-e3,wZ];exact Nat.mod_lt _ (by omega)
 have b4:0<v / 4294967296 ^ k:=Nat.div_pos hv (Nat.pow_pos (by omega));have h1:=fun m=>kC m (enc u) (by omega) (j+k+1) (by omega) (aU _)
 have h2:=fun m=>kC m (enc u) (by omega) (j+k) (by omega) (aU _)
 have h3:=fun m=>kC m (enc v) (by omega) k (by omega) (aU _)
 rw[e3]at h3;rw[<-e1];generalize bG (enc u) (j+k+1)=x1 at*;generalize bG (enc u) (j+k)=x0,v / 4294967296 ^ k=vt at*;have w1:=SF b1;have w2:=BP b1 b2;obtain⟨P,hP⟩:∃ P:Nat,(P:Int)=(x1:Int)*4294967296:=⟨x1*4294967296,by omega⟩
 obtain⟨T,hT⟩:∃ T:Nat,T=x1*4294967296+x0:=⟨_,rfl⟩
 rw[<-hP]at w1 w2;rw[show(P:Int)+(x0:Int)=(T:Int) by omega]at w2;rw[<-hT];have w5:Int.tdiv (T:Int) (vt:Int)=((T / vt:Nat):Int):=by rw[Int.tdiv_eq_ediv_of_nonneg (by omega),Int.natCast_ediv]
 have hq:T / vt<18446744073709551616:=Nat.lt_of_le_of_lt (Nat.div_le_self _ _) (by omega);generalize T / vt=Q at*;have w6:ak .u64 (Q:Int)=(Q:Int):=wrap_u64 (by omega);have w7:ak .i64 (((j+k+1:Nat):Int)-1)=((j+k:Nat):Int):=by rw[wrap_i64 (by omega)];omega
 have w8:ak .i64 (((k+1:Nat):Int)-1)=(k:Int):=by rw[wrap_i64 (by omega)];omega
 have hd0:¬ ((vt:Int)=0):=by omega
 have XT:¬ vt=0:=by omega
 clear hP hT e1 e3 hu hv hv2;obtain⟨G,hG⟩:∃ G:Nat,G=min Q 4294967295:=⟨_,rfl⟩
 rw[<-hG];have hmin:((4294967295:Int)<(Q:Int)/\(G:Int)=4294967295)\/(¬ (4294967295:Int)<(Q:Int)/\(Q:Int)=(G:Int)):=by omega
 clear hG;refine Ex.of (n:=90) ?_;unfold BV;simp only[LD]at h1 h2 h3 ⊢;generalize LL (enc u)=us,LL (enc v)=vs,j+k+1=n at*;generalize j+k=n1,k+1=m at*;rcases hmin with ⟨a,b⟩|⟨a,b⟩
 ·simp -implicitDefEqProofs[AX,f226,lv,h1,h2,h3,w1,w2,w5,w6,w7,w8,hd0,XT,a,b]
 ·rw[b]at a w5 w6;simp -implicitDefEqProofs[AX,f226,lv,h1,h2,h3,w1,w2,w5,w6,w7,w8,hd0,XT,a]
theorem S_ (up u v L:Nat)(es:List D):EX E0 60 AX (BV up u v es L (-1) .u)=some (.exit 0,BV up u v es L (-1) (.d (.v (.bool false)))):=by
 unfold BV;simp only[LD];generalize LL (enc u)=us,LL (enc v)=vs at*;simp -implicitDefEqProofs[AX,f226]
theorem Ph (up u v L j g:Nat)(es:List D)(hj:j<=100000000)(hg:g<=4294967295)(lv:(enc v).length<=10000000) :
  Ex E0 AX.r.l.bl.r.r.l {BV up u v es L j .u with vars:=[.u,.u,.ls (.loc 0) 0 1 0 L,.u,.u,.u,.d (.v (.int .i64 up)),.d (LD (enc u)),.d (LD (enc v)),.d (.v (.int .i64 j)),.u,.d (.v (.int .u64 g)),.u,.u,.u,.u]}
   (.norm,X3 up u v es L j g (v*4294967296 ^ j*g) .u):=by
 have lg:(enc g).length<=1:=fU (k:=1) (by omega);have lvg:(enc (v*g)).length<=100000000:=by
  refine Nat.le_trans (fU (k:=(enc v).length+1) ?_) (by omega);have h1:=oK (aU v);rw[aX]at h1;rw[Nat.pow_succ];exact Nat.lt_of_le_of_lt (Nat.mul_le_mul_left v (show g<=4294967296 by omega)) (Nat.mul_lt_mul_of_pos_right h1 (by omega))
 obtain⟨Kq,_,h1,h2,h3⟩:=((g_ [g] (by simp)).j ((IK (enc v) (enc g) (by omega) (by omega) (aU _) (aU _)).j ((Bf (enc (v*g)) (32*j) (by omega) lvg (aU _)).any))).at 0;rw[IL _ (by omega)]at h1;rw[aX,aX]at h2;rw[aX,Nat.pow_mul,show(2:Nat) ^ 32=4294967296 by rfl]at h3;rw[show v*g*4294967296 ^ j=v*4294967296 ^ j*g by rw[Nat.mul_right_comm]]at h3;generalize Kq=N at*;have w1:ak .u32 (g:Int)=(g:Int):=wrap_u32 (by omega);have w2:ak .i64 (32*(j:Int))=((32*j:Nat):Int):=by rw[wrap_i64 (by omega)];omega
 refine Ex.of (n:=N+60) ?_;unfold BV X3;simp only[LD,LL,List.map_cons,List.map_nil]at h1 h2 h3 ⊢;generalize List.map (fun(x:Nat)=>D.v (Value.int IntKind.u32 (x:Int))) (enc u)=us at*;generalize List.map (fun(x:Nat)=>D.v (Value.int IntKind.u32 (x:Int))) (enc v)=vs at*;generalize List.map (fun(x:Nat)=>D.v (Value.int IntKind.u32 (x:Int))) (enc g)=gs at*;generalize List.map (fun(x:Nat)=>D.v (Value.int IntKind.u32 (x:Int))) (enc (v*g))=vgs at*;generalize List.map (fun(x:Nat)=>D.v (Value.int IntKind.u32 (x:Int))) (enc (v*4294967296 ^ j*g))=ps at*;generalize 32*j=j32 at*;simp -implicitDefEqProofs[AX,f226,h1,h2,h3,w1,w2]
theorem Ld (up u v k L j:Nat)(qs:List Nat)(hv:4294967296 ^ k<=v)(hv2:v<4294967296 ^ (k+1))(hj:j<=50000000)(hk:k<=1000000)(lu:(enc u).length<=100000000)(hu:u<v*4294967296 ^ j*4294967296)
  (hL:j+1+qs.length=L) :
  Ex E0 AX (BV up u v (LL (kg (j+1) qs)) L j .u) (.norm,BV up (u % (v*4294967296 ^ j)) v (LL (kg j (u / (v*4294967296 ^ j)::qs))) L ((j:Int)-1) .u):=by
 have hv0:0<v:=Nat.lt_of_lt_of_le (Nat.pow_pos (by omega)) hv;have hw:0<v*4294967296 ^ j:=Nat.mul_pos hv0 (Nat.pow_pos (by omega));have lv:=Bi hv hv2;have hdig:=SY hv hu;have hd32:u / (v*4294967296 ^ j)<4294967296:=by rw[Nat.div_lt_iff_lt_mul hw,Nat.mul_comm];exact hu
 have hu2:u<4294967296 ^ (j+k+2):=by
  refine Nat.lt_of_lt_of_le hu ?_;rw[show j+k+2=(k+1)+j+1 by omega,Nat.pow_succ,Nat.pow_add];exact Nat.mul_le_mul_right _ (Nat.mul_le_mul_right _ (by omega))
 have lw:(enc (v*4294967296 ^ j*4294967295)).length<=100000000:=by
  refine Nat.le_trans (fU (k:=(k+1)+j+1) ?_) (by omega);rw[Nat.pow_succ,Nat.pow_add];exact Nat.lt_of_le_of_lt (Nat.mul_le_mul_left _ (show 4294967295<=4294967296 by omega)) (Nat.mul_lt_mul_of_pos_right (Nat.mul_lt_mul_of_pos_right hv2 (Nat.pow_pos (by omega))) (by omega))
 have abN:=Lc up u v k L j (LL (kg (j+1) qs)) hv hv2 (by omega) (by omega) lu hu2;have aeT:=Ph up u v L j (min (u / 4294967296 ^ (j+k) / (v / 4294967296 ^ k)) 4294967295) (LL (kg (j+1) qs)) (by omega) (Nat.min_le_right ..) (by omega);have abO:=Lb up u v L j (u / (v*4294967296 ^ j)) (LL (kg (j+1) qs)) hv0 (by omega) lu (by omega) lw rfl _ hdig (Nat.min_le_right ..);have hmul:v*4294967296 ^ j*(u / (v*4294967296 ^ j))<=u:=Nat.mul_div_le u _;obtain⟨n1,hm⟩:=(BN (enc u) (enc (v*4294967296 ^ j*(u / (v*4294967296 ^ j)))) (by omega) (bL hmul) (aU _) (aU _) (by rw[aX,aX];exact hmul)).get;have hmod:u-v*4294967296 ^ j*(u / (v*4294967296 ^ j))=u % (v*4294967296 ^ j):=by
  have:=Nat.div_add_mod u (v*4294967296 ^ j);omega
 rw[aX,aX,hmod]at hm;have hz:=NB qs j;have hset:=IE qs j (u / (v*4294967296 ^ j));have hlen:=rU qs (j+1);have hlv:(LL (enc v)).length=k+1:=by simp[LL,lv]
 generalize LL (kg (j+1) qs)=es at*;rw[<-hset];clear hset;generalize u / (v*4294967296 ^ j)=d,min (u / 4294967296 ^ (j+k) / (v / 4294967296 ^ k)) 4294967295=g at*;generalize v*4294967296 ^ j=w at*;have hjL:j<L:=by omega
 have hz2:=idx hz;have w1:ak .i64 ((j:Int)+((k+1:Nat):Int))=((j+k+1:Nat):Int):=by rw[wrap_i64 (by omega)];omega
 have w2:ak .u32 (d:Int)=(d:Int):=wrap_u32 (by omega);have w3:ak .i64 ((j:Int)-1)=(j:Int)-1:=wrap_i64 (by omega);have w4:(0:Int)<=(j:Int):=by omega
 show Ex E0 (.seq AX.l (.seq (.block 1 (.seq AX.r.l.bl.l (.seq AX.r.l.bl.r.l (.seq AX.r.l.bl.r.r.l (.seq (.block 2 (.loop oiB)) (.seq AX.r.l.bl.r.r.r.r.l AX.r.l.bl.r.r.r.r.r)))))) AX.r.r)) _ _;refine Ex.seq (st1:=BV up u v es L j (.d (.v (.bool true)))) (Ex.of (n:=40) ?_) (Ex.seq (st1:=BV up (u % w) v (es.set j (.v (.int .u32 (d:Int)))) L j .u) (Ex.dK (Ex.seq (Ex.of (n:=40) ?_) (Ex.seq abN (Ex.seq aeT (Ex.seq abO.block
  (Ex.seq (st1:={BV up (u % w) v es L j .u with vars:=[.u,.u,.ls (.loc 0) 0 1 0 L,.u,.u,.u,.d (.v (.int .i64 up)),.d (LD (enc (u % w))),.d (LD (enc v)),.d (.v (.int .i64 j)),.u,.d (.v (.int .u64 d)),.u,.u,.u,.u]}) (Ex.of (n:=n1+40) ?_) (Ex.of (n:=40) ?_))))))) (Ex.of (n:=40) ?_))
 ·unfold BV;simp only[LD];generalize LL (enc u)=us at*;generalize LL (enc v)=vs at*;simp -implicitDefEqProofs[AX,f226,w4]
 ·unfold BV;simp only[LD];generalize LL (enc u)=us at*;generalize LL (enc v)=vs at*;generalize j+k+1=n at*;generalize k+1=m at*;simp -implicitDefEqProofs[AX,f226,hlv,w1]
 ·unfold BV X3;simp only[LD]at hm ⊢;generalize LL (enc u)=us at*;generalize LL (enc v)=vs at*;generalize LL (enc (u % w))=ms at*;generalize LL (enc (w*d))=ps at*;simp -implicitDefEqProofs[AX,f226,hm]
 ·unfold BV;simp only[LD];generalize LL (enc (u % w))=us at*;generalize LL (enc v)=vs at*;simp -implicitDefEqProofs[AX,f226,hz,hz2,w2,w4,hjL,hlen]
 ·unfold BV;simp only[LD];generalize LL (enc (u % w))=us at*;generalize LL (enc v)=vs at*;simp -implicitDefEqProofs[AX,f226,w3]
theorem Pk (up u0 v k L:Nat)(hv:4294967296 ^ k<=v)(hv2:v<4294967296 ^ (k+1))(hL:L<=50000000)(hk:k<=1000000)(lu:(enc u0).length<=100000000)(hu:u0<v*4294967296 ^ L) :
  ∃ r,Ex E0 (.loop AX) (BV up u0 v (LL (kg L [])) L ((L:Int)-1) .u) r /\
   ∃ qs,bT qs/\qs.length=L/\val qs=u0 / v/\r=(.exit 0,BV up (u0 % v) v (LL qs) L (-1) (.d (.v (.bool false)))):=by
 have hv0:0<v:=Nat.lt_of_lt_of_le (Nat.pow_pos (by omega)) hv;refine Ex.inv (S:=fun t:Nat × Nat × List Nat=>BV up t.2.1 v (LL (kg t.1 t.2.2)) L ((t.1:Int)-1) .u) (fun t=>t.1)
  (fun t=>t.1+t.2.2.length=L/\bT t.2.2/\t.2.1<v*4294967296 ^ t.1/\u0=val t.2.2*4294967296 ^ t.1*v+t.2.1) _ ?_ (L,u0,[]) ?_
 ·rintro⟨j,u,qs⟩ ⟨h1,h2,h3,h4⟩;simp only at h1 h2 h3 h4;cases j with
  | zero =>
   simp only[Nat.pow_zero,Nat.mul_one]at h3 h4;have hd:u0 / v=val qs:=by rw[h4,Nat.mul_comm,Nat.mul_add_div hv0,Nat.div_eq_of_lt h3];rfl
   have hm:u0 % v=u:=by rw[h4,Nat.mul_comm,Nat.mul_add_mod,Nat.mod_eq_of_lt h3]
   refine .inr ⟨_,?_,?_,qs,h2,by omega,hd.symm,rfl⟩
   ·rw[hm];have:=S_ up u v L (LL qs);simpa[kg] using Ex.of this
   ·simp
  | succ j =>
   have hu0:u<=u0:=by omega
   have hw:0<v*4294967296 ^ j:=Nat.mul_pos hv0 (Nat.pow_pos (by omega));have h3':u<v*4294967296 ^ j*4294967296:=by rw[Nat.mul_assoc,<-Nat.pow_succ];exact h3
   have hr:=Ld up u v k L j qs hv hv2 (by omega) hk (Nat.le_trans (bL hu0) lu) h3' (by omega);refine .inl ⟨(j,u % (v*4294967296 ^ j),u / (v*4294967296 ^ j)::qs),?_,by simp,?_,?_,?_,?_⟩
   ·simp only;rw[show(((j+1:Nat):Int)-1)=(j:Int) by omega];exact hr
   ·simp only[List.length_cons];omega
   ·intro y hy;rcases List.mem_cons.1 hy with rfl|hy
    ·rw[Nat.div_lt_iff_lt_mul hw,Nat.mul_comm];exact h3'
    ·exact h2 y hy
   ·exact Nat.mod_lt _ hw
   ·simp only[val];have e:u0=val qs*4294967296*(v*4294967296 ^ j)+u:=by
     rw[h4,Nat.pow_succ]
     congr 1
     generalize 4294967296 ^ j=P;grind
    rw[Nat.mul_assoc,Nat.mul_comm _ v];exact S9 e
 ·refine⟨by simp,?_,by simpa using hu,by simp[val]⟩;intro x hx;cases hx
theorem Lf {y:Nat}(hy:0<y):4294967296 ^ ((enc y).length-1)<=y:=by
 rcases Nat.lt_or_ge y (4294967296 ^ ((enc y).length-1)) with h|h
 ·have h1:=fU h;have h2:enc y≠[]:=by intro e;rw[dQ]at e;omega
  have h3:0<(enc y).length:=List.length_pos_iff.2 h2;omega
 ·exact h
theorem yY (y:Nat):y<4294967296 ^ (enc y).length:=by
 have:=oK (aU y)
 rwa [aX]at this
theorem Gx (x y:Nat)(hy:0<y)(lx:(enc x).length<=1000000)(ly:(enc y).length<=1000000) :
  Ca E0 aaz [.d (LD (enc x)),.d (LD (enc y))] (.d (.t [LD (enc (x / y)),LD (enc (x % y))]),none):=by
 by_cases hsm:y<4294967296
 ·have:=SN (enc x) y (by omega) (aU x) hsm hy
  rwa [aX]at this
 ·have ajV:0<(enc y).length:=List.length_pos_iff.2 (by intro e;rw[dQ]at e;omega);obtain⟨k,hk⟩:∃ k,(enc y).length=k+1:=⟨(enc y).length-1,by omega⟩
  have h1:4294967296 ^ k<=y:=by have:=Lf hy;rw[hk]at this;simpa using this
  have h2:y<4294967296 ^ (k+1):=by have:=yY y;rwa [hk]at this
  have hk1:1<=k:=by
   rcases Nat.eq_zero_or_pos k with rfl|h
   ·simp at h2;omega
   ·exact h
  obtain⟨lo,htop,hlo⟩:=X0 k h1 h2;obtain⟨g1,g2⟩:=SX h1 h2;have ht1:y / 4294967296 ^ k<4294967296:=by rw[Nat.div_lt_iff_lt_mul (Nat.pow_pos (by omega)),Nat.mul_comm,<-Nat.pow_succ];exact h2
  have hbl:=Bh ht1;have Gy:=fun m=>La m lo (y / 4294967296 ^ k) ht1 (by omega)
  rw[<-htop,hlo]at Gy;generalize hbe:fV (y / 4294967296 ^ k)=bl at*;generalize hup:32-bl=up at*;have aeU:up<=32:=by omega
  obtain⟨n1,hlx⟩:=(Bf (enc x) up (by omega) (by omega) (aU x)).any;obtain⟨n2,hly⟩:=(Bf (enc y) up (by omega) (by omega) (aU y)).any;rw[aX]at hlx hly;have hp:0<2 ^ up:=Nat.pow_pos (by omega);have lu:(enc (x*2 ^ up)).length<=(enc x).length+1:=by
   refine fU ?_;rw[Nat.pow_succ];have e1:=yY x;have e2:2 ^ up<=4294967296:=by
    have:=Nat.pow_le_pow_right (n:=2) (by omega) aeU;simpa using this
   exact Nat.lt_of_lt_of_le (Nat.mul_lt_mul_of_pos_right e1 hp) (Nat.mul_le_mul_left _ e2)
  have hq:(x*2 ^ up) / (y*2 ^ up)=x / y:=Nat.mul_div_mul_right x y hp;have hr:(x*2 ^ up) % (y*2 ^ up)=x % y*2 ^ up:=Nat.mul_mod_mul_right (2 ^ up) x y;have hr2:x % y*2 ^ up / 2 ^ up=x % y:=Nat.mul_div_cancel _ hp;have hlv:(enc (y*2 ^ up)).length=k+1:=Bi g2 g1;have lr:(enc (x % y*2 ^ up)).length<=100000000:=Nat.le_trans (bL (Nat.mul_le_mul_right _ (Nat.mod_le x y))) (by omega);obtain⟨n3,Gz⟩:=(SS (enc (x % y*2 ^ up)) up (by omega) lr (aU _)).any;rw[aX,hr2]at Gz;have hu0:x*2 ^ up<y*2 ^ up*4294967296 ^ ((enc (x*2 ^ up)).length-k):=by
   refine Nat.lt_of_lt_of_le (yY (x*2 ^ up)) ?_;refine Nat.le_trans ?_ (Nat.mul_le_mul_right _ g2);rw[<-Nat.pow_add];exact Nat.pow_le_pow_right (by omega) (by omega)
  obtain⟨r,hloop,qs,hqs,hql,hqv,rfl⟩:=Pk up (x*2 ^ up) (y*2 ^ up) k ((enc (x*2 ^ up)).length-k) g2 g1 (by omega) (by omega) (by omega) hu0;rw[hq]at hqv;rw[hr]at hloop;obtain⟨n4,hc⟩:=(g_ qs (by omega)).any;rw[cu hqs,hqv]at hc;replace hlx:=hlx (n1+n2+n3+n4) (by omega);replace hly:=hly (n1+n2+n3+n4) (by omega);replace Gz:=Gz (n1+n2+n3+n4) (by omega);replace hc:=hc (n1+n2+n3+n4) (by omega);generalize n1+n2+n3+n4=N at*;have hlY:(LL (enc y)).length=k+1:=by simp[LL,hk]
  have hlV:(LL (enc (y*2 ^ up))).length=k+1:=by simp[LL,hlv]
  have hlU:(LL (enc (x*2 ^ up))).length=(enc (x*2 ^ up)).length:=by simp[LL]
  have hlQ:(LL qs).length=(enc (x*2 ^ up)).length-k:=by simp[LL,hql]
  have hz:LL (kg ((enc (x*2 ^ up)).length-k) [])=List.replicate ((enc (x*2 ^ up)).length-k) (.v (.int .u32 0)):=by simp[LL,kg]
  have hLb:(enc (x*2 ^ up)).length-k<=2000000:=by omega
  have hmax:∃ z:Int,z=((enc (x*2 ^ up)).length:Int)-((k+1:Nat):Int)+1/\((z > 0/\z=(((enc (x*2 ^ up)).length-k:Nat):Int))\/(¬ z > 0/\(enc (x*2 ^ up)).length-k=0)):=⟨_,rfl,by omega⟩
  obtain⟨z,hze,hzc⟩:=hmax;have lU:(enc (x*2 ^ up)).length<=1000001:=by omega
  have w1:ak .i64 (32*((k+1:Nat):Int))=((32*(k+1):Nat):Int):=by rw[wrap_i64 (by omega)];omega
  have w2:ak .i64 (((32*(k+1):Nat):Int)-((32*k+bl:Nat):Int))=(up:Int):=by rw[wrap_i64 (by omega)];omega
  have w3:ak .i64 (((enc (x*2 ^ up)).length:Int)-((k+1:Nat):Int))=((enc (x*2 ^ up)).length:Int)-((k+1:Nat):Int):=wrap_i64 (by omega);have w4:ak .i64 (((enc (x*2 ^ up)).length:Int)-((k+1:Nat):Int)+1)=z:=by rw[wrap_i64 (by omega),hze]
  have w5:ak .i64 ((((enc (x*2 ^ up)).length-k:Nat):Int)-1)=(((enc (x*2 ^ up)).length-k:Nat):Int)-1:=wrap_i64 (by omega);have hne:(((k+1:Nat):Int)==1)=false:=by simp;omega
  clear hu0 g1 g2 hq hr hr2 lr hbe htop hlo hql hqs hqv h1 h2 ht1 hbl;generalize hX:enc (x*2 ^ up)=eX at*;generalize hY:enc (y*2 ^ up)=eY at*;refine Ca.body (o:=.ret) (st1:=(st0 [.u,.u,.d (LD (enc (x / y))),.d (LD (enc (x % y))),.u,.u,.u,.u,.u,.u,.u,.u,.u,.u,.u,.u] [.gM 0 1 (LL qs)])) rfl (k226:E0.fn _=_) rfl ?_ (by intro id h;cases h) ?_
  ·show Ex E0 (.seq z_.body.l (.seq z_.body.r.l (.seq z_.body.r.r.l (.seq z_.body.r.r.r.l (.seq z_.body.r.r.r.r.l (.seq (.seq z_.body.r.r.r.r.r.l.l (.block 0 (.loop AX))) z_.body.r.r.r.r.r.r)))))) _ _;refine Ex.seq (st1:=(st0 [.d (LD (enc x)),.d (LD (enc y)),.u,.u,.u,.u,.u,.u,.u,.u,.u,.u,.u,.u,.u,.u] [])) (Ex.of (n:=40) ?_)
    (Ex.seq (st1:=(st0 [.d (LD (enc x)),.d (LD (enc y)),.u,.u,.u,.u,.u,.u,.u,.u,.u,.u,.u,.d (.v (.bool false)),.u,.u] [])) (Ex.of (n:=40) ?_)
    (Ex.seq (st1:=(st0 [.d (LD (enc x)),.d (LD (enc y)),.u,.u,.u,.u,.d (.v (.int .i64 up)),.u,.u,.u,.u,.u,.u,.u,.u,.u] [])) (Ex.of (n:=200) ?_)
    (Ex.seq (st1:=(st0 [.u,.u,.u,.u,.u,.u,.d (.v (.int .i64 up)),.d (LD eX),.d (LD eY),.u,.u,.u,.u,.u,.u,.u] [])) (Ex.of (n:=N+40) ?_)
    (Ex.seq (st1:=(st0 [.u,.u,.ls (.loc 0) 0 1 0 (eX.length-k),.u,.u,.u,.d (.v (.int .i64 up)),.d (LD eX),.d (LD eY),.u,.u,.u,.u,.u,.u,.u] [.row 0 1 (LL (kg (eX.length-k) []))])) (Ex.of (n:=40) ?_)
    (Ex.seq (Ex.seq (Ex.of (n:=40) ?_) hloop.block) (Ex.of (n:=N+40) ?_))))))
   ·simp -implicitDefEqProofs[f226]
   ·simp only[LD];generalize LL (enc x)=xs,LL (enc y)=ys,k+1=m at*;simp -implicitDefEqProofs[f226,hlY,hne]
   ·simp only[LD]at Gy ⊢;generalize LL (enc x)=xs,LL (enc y)=ys,k+1=m at*;generalize 32*m=m32,32*k+bl=kb at*;simp -implicitDefEqProofs[f226,hlY,Gy,w1,w2]
   ·simp only[LD]at hlx hly ⊢;generalize LL (enc x)=xs,LL (enc y)=ys,LL eX=Xs,LL eY=Ys at*;simp -implicitDefEqProofs[f226,hlx,hly]
   ·have hm1:((eX.length-k:Nat):Int)*4<=1099511627776:=by omega
    have hm2:((eX.length-k:Nat):Int)<=1099511627776:=by omega
    rw[hz];generalize eX.length-k=L at*;generalize eX.length=lX at*;simp only[LD];generalize LL eX=Xs,LL eY=Ys,k+1=m at*;rcases hzc with ⟨a,b⟩|⟨a,b⟩
    ·rw[b]at w4 a;replace a:0<L:=by omega
     simp -implicitDefEqProofs[f226,hlU,hlV,w3,w4,a,hm1,hm2,most]
    ·subst b;simp -implicitDefEqProofs[f226,hlU,hlV,w3,w4,a,most]
   ·unfold BV;simp only[hX,hY,LD];have hlR:(LL (kg (eX.length-k) [])).length=eX.length-k:=by rw[rU];simp
    generalize LL (kg (eX.length-k) [])=es at*;generalize eX.length-k=L,LL eX=Xs,LL eY=Ys at*;simp -implicitDefEqProofs[f226,w5]
   ·unfold BV;simp only[LD]at hc Gz ⊢;clear hloop;generalize LL (enc (x % y*2 ^ up))=rs,LL (enc (y*2 ^ up))=Ys,LL (enc (x / y))=as1 at*;generalize LL (enc (x % y))=as2,eX.length-k=L at*;have htk:(LL qs).take L=LL qs:=List.take_of_length_le (by omega);generalize LL qs=Qs at*;simp -implicitDefEqProofs[ae.view,f226,hlQ,htk,hc,Gz]
  ·simp -implicitDefEqProofs[f226,LD,gZ]
theorem Lg (a b:Nat)(la:(enc a).length<=1000000)(lb:(enc b).length<=1000000)(hb0:0<b):Ex E0 gcB (Es a b .u) (.norm,Es b (a % b) .u):=by
 obtain⟨n0,ho⟩:=(Gx a b hb0 la lb).get;refine Ex.of (n:=n0+60) ?_;unfold Es;have hlb:∃ m,(LL (enc b)).length=m+1:=by
  have:0<(enc b).length:=List.length_pos_iff.2 (by intro e;rw[dQ]at e;omega);exact⟨(enc b).length-1,by simp[LL];omega⟩
 obtain⟨m,hlb⟩:=hlb;have hm:0<(m:Int)+1:=by omega
 simp only[LD]at ho ⊢;generalize LL (enc a)=as',LL (enc b)=bs,LL (enc (a / b))=qs,LL (enc (a % b))=rs at*;simp -implicitDefEqProofs[gcB,f183,hlb,ho,hm]
theorem Pm (a b:Nat)(la:(enc a).length<=1000000)(lb:(enc b).length<=1000000):Ex E0 (.loop gcB) (Es a b .u) (.exit 0,Es (Nat.gcd a b) 0 (.d (.v (.bool false)))):=by
 induction b using Nat.strongRecOn generalizing a with
 | ind b ih =>
  rcases Nat.eq_zero_or_pos b with rfl|h0
  ·rw[Nat.gcd_zero_right];exact Ex.out (XU a) (by simp)
  ·have hm:=Nat.mod_lt a h0;have:=ih (a % b) hm b lb (Nat.le_trans (bL (by omega)) lb);have hg:Nat.gcd a b=Nat.gcd b (a % b):=by rw[Nat.gcd_comm a b,Nat.gcd_rec b a,Nat.gcd_comm]
   rw[hg];exact Ex.next (Lg a b la lb h0) this
theorem Ta (a b:Nat)(la:(enc a).length<=1000000)(lb:(enc b).length<=1000000):Ca E0 ahH [.d (LD (enc a)),.d (LD (enc b))] (.d (LD (enc (Nat.gcd a b))),none):=by
 have hl:=Pm a b la lb;generalize Nat.gcd a b=g at*;refine Ca.body (o:=.ret) (st1:=(st0 [.u,.u,.d (LD (enc g)),.u,.u] [])) rfl (k183:E0.fn _=_) rfl ?_ (by intro id h;cases h) ?_
 ·show Ex E0 (.seq abF.body.l (.seq (.block 0 (.loop gcB)) abF.body.r.r)) _ _;refine Ex.seq (st1:=Es a b .u) (Ex.of (n:=40) ?_) (Ex.seq hl.block (Ex.of (n:=40) ?_))
  ·unfold Es;simp -implicitDefEqProofs[f183]
  ·unfold Es;simp -implicitDefEqProofs[f183]
 ·simp -implicitDefEqProofs[f183,LD]
abbrev ahK:Nat:=182
abbrev akE:ai:=f182
abbrev abP:Nat:=109
abbrev ahL:ai:=f109
theorem GA (n:Nat):CL E0 (n+20) ahK [] []=some (.d (.s 1 [.v (.int .u32 1)]),none):=by
 rw[av rfl (k182:E0.fn _=_) rfl];simp -implicitDefEqProofs[f182]
theorem BX:LD (enc 1)=.s 1 [.v (.int .u32 1)]:=by rw[jD (by omega) (by omega)];rfl
def vQ (l:List Nat):Bool:=decide (trim l=l)
theorem NC (n:Nat):vQ (enc n)=true:=by simp[vQ,IW]
theorem nZ {l:List Nat}(hl:bT l):vQ l=true↔l=enc (val l):=by
 unfold vQ;rw[decide_eq_true_iff,cu hl];exact⟨fun h=>h.symm,fun h=>h.symm⟩
theorem Aa (m:Nat)(l:List Nat)(hl:l.length<=1000000000):CL E0 (m+30) XL [.d (LD l)] []=some (.d (.v (.bool (vQ l))),none):=by
 rw[av rfl (k180:E0.fn _=_) rfl];rcases List.eq_nil_or_concat l with h|⟨b,x,h⟩
 ·rw[h];have:vQ []=true:=by simp[vQ,trim]
  rw[this];simp -implicitDefEqProofs[f180,LD,LL]
 ·rw[List.concat_eq_append]at h;rw[h]at hl ⊢;have hlen:(LL (b++[x])).length=b.length+1:=by simp[LL]
  have hget:(LL (b++[x]))[b.length]?=some (.v (.int .u32 (x:Int))):=by simp[LL]
  have hb:(((b.length:Int)+1)==0)=false:=by simp;omega
  have hw:ak .i64 (b.length:Int)=(b.length:Int):=wrap_i64 (by simp at hl;omega);have hok:vQ (b++[x])=((x:Int) != 0):=by
   unfold vQ
   by_cases hx:x=0
   ·subst hx;rw[uw];have h2:=rW b;have h3:¬ trim b=b++[0]:=by
     intro e;rw[e]at h2;simp only[List.length_append,List.length_cons,List.length_nil]at h2;omega
    simp[h3]
   ·rw[uu b x hx];simp[hx]
  rw[hok];simp only[LD];generalize LL (b++[x])=es at*;have BL:=idx hget;simp -implicitDefEqProofs[f180,hlen,hget,BL,hb,hw]
def raw (s:Bool)(a b:List Nat):D:=.a [.v (.bool s),LD a,LD b]
def dA (s:Bool)(a b:List Nat):Bool :=
 vQ a&&vQ b&&(if a=[] then !s&&decide (b=[]) else decide (b=[])||(decide (val b≠1)&&decide (Nat.gcd (val a) (val b)=1)))
theorem X4 {a:Nat}:(dJ a 1 != 0)=decide (a≠1):=by
 unfold dJ
 by_cases h:a<1
 ·rw[if_pos h];simp;omega
 ·rw[if_neg h]
  by_cases h2:a=1
  ·simp[h2]
  ·simp[h2]
theorem X5 {a:Nat}:(dJ a 1==0)=decide (a=1):=by
 unfold dJ
 by_cases h:a<1
 ·rw[if_pos h];simp;omega
 ·rw[if_neg h]
  by_cases h2:a=1
  ·simp[h2]
  ·simp[h2]
theorem yZ (s:Bool)(a b:List Nat)(la:a.length<=1000000)(lb:b.length<=1000000)(ha:bT a)(hb:bT b):Ca E0 abP [.d (raw s a b)] (.d (.v (.bool (dA s a b))),none):=by
 have p1:=fun m=>Aa m a (by omega)
 have p2:=fun m=>Aa m b (by omega)
 have o1:=GA;unfold dA
 by_cases hoa:vQ a=true
 ·by_cases Iq:vQ b=true
  ·rw[hoa]at p1 ⊢;rw[Iq]at p2 ⊢
   by_cases hna:a=[]
   ·subst hna;simp only[raw,LD,LL,List.map_nil]at p1 p2 ⊢
    by_cases hnb:b=[]
    ·subst hnb;refine Ca.bD (n:=60) ?_;rw[av rfl (k109:E0.fn _=_) rfl];simp only[List.map_nil]at p2 ⊢;cases s<;>simp -implicitDefEqProofs[f109,p1]
    ·have hlen:((List.map (fun(x:Nat)=>D.v (Value.int IntKind.u32 (x:Int))) b).length==0)=false:=by simp[hnb]
     refine Ca.bD (n:=60) ?_;rw[av rfl (k109:E0.fn _=_) rfl];have Fa:¬ (List.map (fun(x:Nat)=>D.v (Value.int IntKind.u32 (x:Int))) b)=[]:=by simp[hnb]
     generalize List.map (fun(x:Nat)=>D.v (Value.int IntKind.u32 (x:Int))) b=bs at*;cases s<;>simp -implicitDefEqProofs[f109,p1,p2,hnb,hlen,Fa]
   ·have hla:¬ (LL a)=[]:=by simp[LL,hna]
    by_cases hnb:b=[]
    ·subst hnb;refine Ca.bD (n:=60) ?_;rw[av rfl (k109:E0.fn _=_) rfl];simp only[raw,LD]at p1 p2 ⊢;generalize LL a=as' at*;simp only[LL,List.map_nil]at p2 ⊢;simp -implicitDefEqProofs[f109,p1,p2,hna,hla]
    ·have hlb:¬ (LL b)=[]:=by simp[LL,hnb]
     have ea:=(nZ ha).1 hoa;have eb:=(nZ hb).1 Iq;have l1:=fU (n:=1) (k:=1) (by omega);have hg:(enc (Nat.gcd (val a) (val b))).length<=1000000:=by
      refine Nat.le_trans (bL (m:=Nat.gcd (val a) (val b)) (n:=val b) (Nat.le_of_dvd ?_ (Nat.gcd_dvd_right _ _))) (by rw[<-eb];omega);rcases Nat.eq_zero_or_pos (val b) with h|h
      ·rw[h]at eb;rw[cK]at eb;exact absurd eb hnb
      ·exact h
     obtain⟨Kq,_,c1,c2,c3⟩:=((yU b (enc 1) (by omega) (by omega) hb (aU _)).j ((yU (enc (Nat.gcd (val a) (val b))) (enc 1) (by omega) (by omega) (aU _) (aU _)).j ((Ta (val a) (val b) (by rw[<-ea];omega) (by rw[<-eb];omega)).any))).at 0;generalize Kq=N at*;simp only[aX]at c1 c2;rw[<-ea,<-eb]at c3;rw[BX]at c1 c2;have e1:=X4 (a:=val b);have e2:=X5 (a:=Nat.gcd (val a) (val b));refine Ca.bD (n:=N+60) ?_;rw[av rfl (k109:E0.fn _=_) rfl];rw[if_neg hna];simp only[hnb,decide_false,Bool.false_or,Bool.true_and];rw[<-e1,<-e2];clear e1 e2 ea eb;generalize dJ (val b) 1=k1,dJ (Nat.gcd (val a) (val b)) 1=k2 at*;simp only[raw,LD]at p1 p2 c1 c2 c3 ⊢;generalize LL a=as',LL b=bs,LL (enc (Nat.gcd (val a) (val b)))=gs at*;cases hk1:(k1 != 0)
     ·simp -implicitDefEqProofs[f109,p1,p2,hla,hlb,o1,c1,c2,c3,hk1]
     ·simp -implicitDefEqProofs[f109,p1,p2,hla,hlb,o1,c1,c2,c3,hk1]
  ·simp only[Bool.not_eq_true]at Iq;rw[hoa]at p1 ⊢;rw[Iq]at p2 ⊢;refine Ca.bD (n:=60) ?_;rw[av rfl (k109:E0.fn _=_) rfl];simp only[raw,LD]at p1 p2 ⊢;generalize LL a=as',LL b=bs at*;simp -implicitDefEqProofs[f109,p1,p2]
 ·simp only[Bool.not_eq_true]at hoa;rw[hoa]at p1 ⊢;refine Ca.bD (n:=60) ?_;rw[av rfl (k109:E0.fn _=_) rfl];simp only[raw,LD]at p1 p2 ⊢;generalize LL a=as',LL b=bs at*;simp -implicitDefEqProofs[f109,p1,p2]
abbrev nOf:Nat:=185
abbrev fOf:ai:=f185
abbrev abQ:Nat:=230
abbrev ahM:ai:=f230
abbrev ahN:Nat:=187
abbrev akG:ai:=f187
def sz (n:Nat):Nat:=(enc n).length
theorem Ab {n k:Nat}(h:n<4294967296 ^ k):sz n<=k:=fU h
theorem IX (n:Nat):n<4294967296 ^ sz n:=yY n
theorem qj {m n:Nat}(h:m<=n):sz m<=sz n:=bL h
theorem fu (a b:Nat):sz (a*b)<=sz a+sz b:=by
 refine Ab ?_;rw[Nat.pow_add];have h1:=IX a;have h2:=IX b;exact Nat.lt_of_le_of_lt (Nat.mul_le_mul_left a (Nat.le_of_lt h2)) (Nat.mul_lt_mul_of_pos_right h1 (Nat.pow_pos (by omega)))
theorem Lh (a b:Nat):sz (a+b)<=max (sz a) (sz b)+1:=by
 refine Ab ?_;rw[Nat.pow_succ];have h1:=Nat.lt_of_lt_of_le (IX a) (Nat.pow_le_pow_right (n:=4294967296) (by omega) (Nat.le_max_left (sz a) (sz b)));have h2:=Nat.lt_of_lt_of_le (IX b) (Nat.pow_le_pow_right (n:=4294967296) (by omega) (Nat.le_max_right (sz a) (sz b)));omega
theorem BZ:sz 1=1:=by unfold sz;rw[jD (by omega) (by omega)];rfl
def fq (s:Bool)(n d:Nat):D:=.a [.v (.bool s),LD (enc n),LD (enc d)]
def qs (x:Rat):Bool:=decide (x.num<0)
def qn (x:Rat):List Nat:=enc x.num.natAbs
def qd (x:Rat):List Nat:=if x.den=1 then [] else enc x.den
def qD (x:Rat):D:=raw (qs x) (qn x) (qd x)
def fqR (x:Rat):D:=fq (qs x) x.num.natAbs x.den
def qz (x:Rat):Nat:=max (sz x.num.natAbs) (sz x.den)
theorem GD (x:Rat):bT (qn x):=aU _
theorem GG (x:Rat):bT (qd x):=by
 unfold qd;split
 ·intro y hy;cases hy
 ·exact aU _
theorem Tc (x:Rat):(qn x).length<=qz x:=Nat.le_max_left _ _
theorem Td (x:Rat):(qd x).length<=qz x:=by
 unfold qd;split
 ·simp
 ·exact Nat.le_max_right _ _
theorem uz (x:Rat):dA (qs x) (qn x) (qd x)=true:=by
 have hd:=x.den_nz;have hr:Nat.gcd x.num.natAbs x.den=1:=x.reduced;have ok2:vQ (qd x)=true:=by
  unfold qd;split
  ·simp[vQ,trim]
  ·exact NC _
 unfold dA;rw[show vQ (qn x)=true from NC _,ok2];simp only[Bool.true_and]
 by_cases h0:qn x=[]
 ·rw[if_pos h0];have hz:x.num.natAbs=0:=dQ.1 h0;have hz2:x.num=0:=Int.natAbs_eq_zero.1 hz;rw[hz,Nat.gcd_zero_left]at hr;simp[qs,qd,hz2,hr]
 ·rw[if_neg h0];unfold qd;split
  ·simp
  ·rename_i h1;have e1:val (qn x)=x.num.natAbs:=aX _;simp[aX,e1,hr,h1]
theorem B_ (x:Rat)(hx:qz x<=1000000):Ca E0 nOf [.d (qD x)] (.d (fqR x),none):=by
 obtain⟨N,hv⟩:=(yZ (qs x) (qn x) (qd x) (Nat.le_trans (Tc x) hx) (Nat.le_trans (Td x) hx) (GD x) (GG x)).get;rw[uz]at hv;have o1:=GA;have hn:enc x.num.natAbs=qn x:=rfl;refine Ca.bD (n:=N+60) ?_;rw[av rfl (k185:E0.fn _=_) rfl];simp only[qD,fqR,fq,raw,hn];simp only[raw]at hv;generalize qs x=s at*
 by_cases hd:x.den=1
 ·have e:qd x=[]:=if_pos hd;rw[e]at hv ⊢;rw[hd,BX];simp only[LD]at hv ⊢;generalize LL (qn x)=ns at*;simp only[LL,List.map_nil]at hv ⊢;simp -implicitDefEqProofs[f185,hv,o1]
 ·have e:qd x=enc x.den:=if_neg hd;have Fa:¬ LL (enc x.den)=[]:=by
   have:=x.den_nz;simp[LL,dQ,this]
  rw[e]at hv ⊢;simp only[LD]at hv ⊢;generalize LL (qn x)=ns,LL (enc x.den)=ds at*;simp -implicitDefEqProofs[f185,hv,Fa]
theorem Cb (m:Nat)(l:List Nat)(h0:l≠[])(hl:l.length<=100000000):CL E0 (m+30) abQ [.d (LD l)] []=some (.d (LD l),none):=by
 rw[av rfl (k230:E0.fn _=_) rfl];obtain⟨x,r,rfl⟩:∃ x r,l=x::r:=by cases l with|nil=>exact absurd rfl h0|cons x r=>exact⟨x,r,rfl⟩
 simp only[LD,LL,List.map_cons];have hlen:(List.map (fun(x:Nat)=>D.v (Value.int IntKind.u32 (x:Int))) r).length<=100000000:=by simp at hl ⊢;omega
 have hone:∀ y ∈ List.map (fun(x:Nat)=>D.v (Value.int IntKind.u32 (x:Int))) r,D.one y=true:=by
  intro y hy;obtain⟨z,_,rfl⟩:=List.mem_map.1 hy;rfl
 generalize List.map (fun(x:Nat)=>D.v (Value.int IntKind.u32 (x:Int))) r=es at*;have hm:(es.length+1)*4<=1099511627776:=by omega
 have hm2:(es.length+1)<=1099511627776:=by omega
 simp -implicitDefEqProofs[f230,ae.view,most,hm,hm2]
def uT (s:Bool)(n:Nat):Int:=if s then -(n:Int) else n
def w9 (s:Bool)(n d:Nat):Rat:=mkRat (uT s n) d
theorem vR (s:Bool)(n:Nat):(uT s n).natAbs=n:=by cases s<;>simp[uT]
theorem uA {s:Bool}{n d:Nat}(hd:0<d):(w9 s n d).den=d / Nat.gcd n d:=by
 unfold w9;rw[Rat.den_mkRat,if_neg (by omega),vR,Nat.gcd_comm]
theorem ND {s:Bool}{n d:Nat}(hd:0<d):(w9 s n d).num=uT s (n / Nat.gcd n d):=by
 unfold w9;rw[Rat.num_mkRat,if_neg (by omega),vR,Nat.gcd_comm];have hg:Nat.gcd n d ∣ n:=Nat.gcd_dvd_left n d;cases s
 ·simp[uT]
 ·simp only[uT,if_true];rw[Int.neg_ediv_of_dvd (by exact_mod_cast hg)];simp
theorem uB {s:Bool}{n d:Nat}(hd:0<d):(w9 s n d).num.natAbs=n / Nat.gcd n d:=by rw[ND hd,vR]
theorem Cc {s:Bool}{n d:Nat}(hd:0<d):qs (w9 s n d)=if n=0 then false else s:=by
 have hg:0<Nat.gcd n d:=Nat.gcd_pos_of_pos_right n hd;unfold qs;rw[ND hd]
 by_cases h:n=0
 ·subst h;cases s<;>simp[uT]
 ·rw[if_neg h];have:=Nat.div_pos (Nat.le_of_dvd (by omega) (Nat.gcd_dvd_left n d)) hg;cases s
  ·simp[uT];omega
  ·simp only[uT,if_true];simp;omega
theorem Ce {s:Bool}{n d:Nat}(hd:0<d):qz (w9 s n d)<=max (sz n) (sz d):=by
 unfold qz;rw[uB hd,uA hd];have h1:=qj (Nat.div_le_self n (Nat.gcd n d));have h2:=qj (Nat.div_le_self d (Nat.gcd n d));omega
theorem GH {s:Bool}{n d:Nat}(ln:sz n<=1000000)(ld:sz d<=1000000)(hd0:0<d):Ca E0 ahN [.d (fq s n d)] (.d (qD (w9 s n d)),none):=by
 have o1:=GA;unfold qD qn qd;rw[Cc hd0,uB hd0,uA hd0];unfold sz at ln ld;rcases Nat.eq_zero_or_pos n with rfl|hn0
 ·have e2:d / Nat.gcd 0 d=1:=by rw[Nat.gcd_zero_left];exact Nat.div_self hd0
  rw[e2];refine Ca.bD (n:=60) ?_;rw[av rfl (k187:E0.fn _=_) rfl];simp only[fq,raw,Nat.zero_div,cK,if_true,LD,LL,List.map_nil];generalize List.map (fun(x:Nat)=>D.v (Value.int IntKind.u32 (x:Int))) (enc d)=ds at*;simp -implicitDefEqProofs[f187]
 ·rw[if_neg (by omega)];have hg:0<Nat.gcd n d:=Nat.gcd_pos_of_pos_right n hd0;have lg:(enc (Nat.gcd n d)).length<=1000000:=Nat.le_trans (bL (Nat.le_of_dvd hd0 (Nat.gcd_dvd_right n d))) ld;obtain⟨n1,c1⟩:=(Ta n d ln ld).any;have l1:=fU (n:=1) (k:=1) (by omega);obtain⟨n2,c2⟩:=(yU (enc (Nat.gcd n d)) (enc 1) (by omega) (by omega) (aU _) (aU _)).any;obtain⟨n3,c3⟩:=(Gx n (Nat.gcd n d) hg ln lg).any;obtain⟨n4,c4⟩:=(Gx d (Nat.gcd n d) hg ld lg).any;have ldl:(enc (d / Nat.gcd n d)).length<=1000000:=Nat.le_trans (bL (Nat.div_le_self _ _)) ld;obtain⟨n5,c5⟩:=(yU (enc (d / Nat.gcd n d)) (enc 1) (by omega) (by omega) (aU _) (aU _)).any;replace c1:=c1 (n1+n2+n3+n4+n5) (by omega);replace c2:=c2 (n1+n2+n3+n4+n5) (by omega);replace c3:=c3 (n1+n2+n3+n4+n5) (by omega);replace c4:=c4 (n1+n2+n3+n4+n5) (by omega);replace c5:=c5 (n1+n2+n3+n4+n5) (by omega);generalize n1+n2+n3+n4+n5=N at*;simp only[aX]at c2 c5;rw[BX]at c2 c5;have k1:=fun m=>Cb m (enc n) (by rw[Ne,dQ];omega) (by omega)
  have k2:=fun m=>Cb m (enc d) (by rw[Ne,dQ];omega) (by omega)
  have hln:¬ LL (enc n)=[]:=by
   have:¬ n=0:=by omega
   simp[LL,dQ,this]
  refine Ca.bD (n:=N+80) ?_;rw[av rfl (k187:E0.fn _=_) rfl]
  by_cases h1:Nat.gcd n d=1
  ·have e1:dJ 1 1=0:=by simp[dJ]
   rw[h1]at c1 c2 c5 ⊢;rw[Nat.div_one]at c5;rw[Nat.div_one,Nat.div_one];rw[BX]at c1 c2;rw[e1]at c2
   by_cases hd1:d=1
   ·have e2:dJ d 1=0:=by rw[hd1];simp[dJ]
    rw[e2]at c5;rw[if_pos hd1];simp only[fq,raw,LD]at c1 c2 c5 k1 k2 ⊢;generalize LL (enc n)=ns,LL (enc d)=ds at*;simp only[LL,List.map_nil];simp -implicitDefEqProofs[f187,o1,c1,c2,c5,k1,k2,hln]
   ·have e2:dJ d 1=1:=by unfold dJ;rw[if_neg (by omega),if_neg (by omega)]
    rw[e2]at c5;rw[if_neg hd1];simp only[fq,raw,LD]at c1 c2 c5 k1 k2 ⊢;generalize LL (enc n)=ns,LL (enc d)=ds at*;simp -implicitDefEqProofs[f187,o1,c1,c2,c5,k1,k2,hln]
  ·have e1:dJ (Nat.gcd n d) 1=1:=by unfold dJ;rw[if_neg (by omega),if_neg h1]
   rw[e1]at c2;have hdv:Nat.gcd n d ∣ d:=Nat.gcd_dvd_right n d;generalize Nat.gcd n d=g at*
   by_cases hd1:d / g=1
   ·have e2:dJ (d / g) 1=0:=by rw[hd1];simp[dJ]
    rw[e2]at c5;rw[if_pos hd1];generalize d / g=dd,n / g=nn,n % g=m1,d % g=m2 at*;simp only[fq,raw,LD]at c1 c2 c3 c4 c5 k1 k2 ⊢;generalize LL (enc n)=ns,LL (enc d)=ds,LL (enc g)=gs at*;generalize LL (enc nn)=q1,LL (enc dd)=q2,LL (enc m1)=x1,LL (enc m2)=x2 at*;simp only[LL,List.map_nil];simp -implicitDefEqProofs[f187,o1,c1,c2,c3,c4,c5,k1,k2,hln]
   ·have e2:dJ (d / g) 1=1:=by
     have:0<d / g:=Nat.div_pos (Nat.le_of_dvd hd0 hdv) hg;unfold dJ;rw[if_neg (by omega),if_neg hd1]
    rw[e2]at c5;rw[if_neg hd1];generalize d / g=dd,n / g=nn,n % g=m1,d % g=m2 at*;simp only[fq,raw,LD]at c1 c2 c3 c4 c5 k1 k2 ⊢;generalize LL (enc n)=ns,LL (enc d)=ds,LL (enc g)=gs at*;generalize LL (enc nn)=q1,LL (enc dd)=q2,LL (enc m1)=x1,LL (enc m2)=x2 at*;simp -implicitDefEqProofs[f187,o1,c1,c2,c3,c4,c5,k1,k2,hln]
abbrev abR:Nat:=186
abbrev ahO:ai:=f186
abbrev aeX:Nat:=232
abbrev aj0:ai:=f232
abbrev ahP:Nat:=114
abbrev akI:ai:=f114
abbrev ahQ:Nat:=191
abbrev akJ:ai:=f191
theorem y5 {a b:Nat}(ha:sz a<=1000000)(hb:sz b<=1000000):Ca E0 SI [.d (LD (enc a)),.d (LD (enc b))] (.d (LD (enc (a*b))),none):=by
 unfold sz at ha hb;have:=IK (enc a) (enc b) (by omega) (by omega) (aU _) (aU _);simpa only[aX] using this
theorem Te {a b:Nat}(ha:sz a<=1000000)(hb:sz b<=1000000):Ca E0 aay [.d (LD (enc a)),.d (LD (enc b))] (.d (LD (enc (a+b))),none):=by
 unfold sz at ha hb;have:=XR (enc a) (enc b) (by omega) (by omega) (aU _) (aU _);simpa only[aX] using this
theorem Fb {a b:Nat}(ha:sz a<=1000000)(hb:b<=a):Ca E0 SC [.d (LD (enc a)),.d (LD (enc b))] (.d (LD (enc (a-b))),none):=by
 unfold sz at ha;have:=BN (enc a) (enc b) (by omega) (bL hb) (aU _) (aU _) (by simpa only[aX] using hb);simpa only[aX] using this
theorem X6 {a b:Nat}(ha:sz a<=1000000)(hb:sz b<=1000000):Ca E0 abA [.d (LD (enc a)),.d (LD (enc b))] (.d (.v (.int .i64 (dJ a b))),none):=by
 unfold sz at ha hb;have:=yU (enc a) (enc b) (by omega) (by omega) (aU _) (aU _);simpa only[aX] using this
theorem X7 (s:Bool)(n d:Nat):Ca E0 aeX [.d (fq s n d)] (.d (fq (!s) n d),none):=by
 refine Ca.bD (n:=60) ?_;rw[av rfl (k232:E0.fn _=_) rfl];simp only[fq,LD];generalize LL (enc n)=ns;generalize LL (enc d)=ds;simp -implicitDefEqProofs[f232]
def ql (s1:Bool)(a:Nat)(s2:Bool)(b:Nat):Bool:=if s1=s2 then s1 else if b<=a then s1 else s2
def oN (s1:Bool)(a:Nat)(s2:Bool)(b:Nat):Nat:=if s1=s2 then a+b else if b<=a then a-b else b-a
theorem w_ {s1 s2:Bool}{a b:Nat}:sz (oN s1 a s2 b)<=max (sz a) (sz b)+1:=by
 unfold oN;split
 ·exact Lh a b
 ·split
  ·have:=qj (Nat.sub_le a b);omega
  ·have:=qj (Nat.sub_le b a);omega
theorem NF (s1 s2:Bool)(a b:Nat):uT (ql s1 a s2 b) (oN s1 a s2 b)=uT s1 a+uT s2 b:=by
 unfold ql oN
 by_cases h:s1=s2
 ·subst h;simp only[if_true];cases s1<;>simp[uT]<;>omega
 ·rw[if_neg h,if_neg h]
  by_cases hab:b<=a
  ·rw[if_pos hab,if_pos hab];cases s1<;>cases s2<;>simp_all[uT]<;>omega
  ·rw[if_neg hab,if_neg hab];cases s1<;>cases s2<;>simp_all[uT]<;>omega
theorem IY (s1 s2:Bool){n1 d1 n2 d2:Nat}(h1:sz n1<=200000)(h2:sz d1<=200000)(h3:sz n2<=200000)(h4:sz d2<=200000) :
  Ca E0 abR [.d (fq s1 n1 d1),.d (fq s2 n2 d2)] (.d (fq (ql s1 (n1*d2) s2 (n2*d1)) (oN s1 (n1*d2) s2 (n2*d1)) (d1*d2)),none):=by
 have b1:=fu n1 d2;have b2:=fu n2 d1;obtain⟨k1,t1⟩:=(y5 (a:=n1) (b:=d2) (by omega) (by omega)).any;obtain⟨k2,t2⟩:=(y5 (a:=n2) (b:=d1) (by omega) (by omega)).any;obtain⟨k3,t3⟩:=(y5 (a:=d1) (b:=d2) (by omega) (by omega)).any;generalize n1*d2=a,n2*d1=b,d1*d2=d at*;obtain⟨k4,t4⟩:=(Te (a:=a) (b:=b) (by omega) (by omega)).any;obtain⟨k5,t5⟩:=(X6 (a:=a) (b:=b) (by omega) (by omega)).any
 by_cases hs:s1=s2
 ·subst hs;replace t1:=t1 (k1+k2+k3+k4) (by omega);replace t2:=t2 (k1+k2+k3+k4) (by omega);replace t3:=t3 (k1+k2+k3+k4) (by omega);replace t4:=t4 (k1+k2+k3+k4) (by omega);generalize k1+k2+k3+k4=N at*;refine Ca.bD (n:=N+80) ?_;rw[av rfl (k186:E0.fn _=_) rfl];simp only[fq,ql,oN,if_true,LD]at*;generalize LL (enc n1)=x1,LL (enc n2)=x2,LL (enc d1)=x3,LL (enc d2)=x4,LL (enc (a+b))=x5,LL (enc a)=x6,LL (enc b)=x7 at*;generalize LL (enc d)=x8 at*;simp -implicitDefEqProofs[f186,t1,t2,t3,t4]
 ·have hbq:(s1==s2)=false:=by simpa using hs
  by_cases hab:b<=a
  ·obtain⟨k6,t6⟩:=(Fb (a:=a) (b:=b) (by omega) hab).any;replace t1:=t1 (k1+k2+k3+k5+k6) (by omega);replace t2:=t2 (k1+k2+k3+k5+k6) (by omega);replace t3:=t3 (k1+k2+k3+k5+k6) (by omega);replace t5:=t5 (k1+k2+k3+k5+k6) (by omega);replace t6:=t6 (k1+k2+k3+k5+k6) (by omega);generalize k1+k2+k3+k5+k6=N at*;have hc:(0:Int)<=dJ a b:=by unfold dJ;rw[if_neg (by omega)];split<;>omega
   refine Ca.bD (n:=N+80) ?_;rw[av rfl (k186:E0.fn _=_) rfl];simp only[fq,ql,oN,if_neg hs,if_pos hab,LD]at*;generalize dJ a b=cc,LL (enc n1)=x1,LL (enc n2)=x2,LL (enc d1)=x3,LL (enc d2)=x4,LL (enc (a-b))=x5,LL (enc a)=x6,LL (enc b)=x7 at*;generalize LL (enc d)=x8 at*;simp -implicitDefEqProofs[f186,t1,t2,t3,t5,t6,hbq,hc]
  ·obtain⟨k6,t6⟩:=(Fb (a:=b) (b:=a) (by omega) (by omega)).any;replace t1:=t1 (k1+k2+k3+k5+k6) (by omega);replace t2:=t2 (k1+k2+k3+k5+k6) (by omega);replace t3:=t3 (k1+k2+k3+k5+k6) (by omega);replace t5:=t5 (k1+k2+k3+k5+k6) (by omega);replace t6:=t6 (k1+k2+k3+k5+k6) (by omega);generalize k1+k2+k3+k5+k6=N at*;have hc:dJ a b=-1:=by unfold dJ;rw[if_pos (by omega)]
   rw[hc]at t5;refine Ca.bD (n:=N+80) ?_;rw[av rfl (k186:E0.fn _=_) rfl];simp only[fq,ql,oN,if_neg hs,if_neg hab,LD]at*;generalize LL (enc n1)=x1,LL (enc n2)=x2,LL (enc d1)=x3,LL (enc d2)=x4,LL (enc (b-a))=x5,LL (enc a)=x6,LL (enc b)=x7 at*;generalize LL (enc d)=x8 at*;simp -implicitDefEqProofs[f186,t1,t2,t3,t5,t6,hbq]
theorem n_ (x:Rat):uT (qs x) x.num.natAbs=x.num:=by
 unfold uT qs
 by_cases h:x.num<0
 ·rw[if_pos (by simpa using h)];omega
 ·rw[if_neg (by simpa using h)];omega
theorem NG (s1 s2:Bool)(a b:Nat):uT (s1 != s2) (a*b)=uT s1 a*uT s2 b:=by
 cases s1<;>cases s2<;>simp[uT,Int.neg_mul,Int.mul_neg]
theorem den_pos (x:Rat):0<x.den:=Nat.pos_of_ne_zero x.den_nz
theorem NH (x y:Rat):w9 (qs x != qs y) (x.num.natAbs*y.num.natAbs) (x.den*y.den)=x*y:=by
 unfold w9;rw[NG,n_,n_,Rat.mul_def']
theorem GI (x y:Rat):w9 (ql (qs x) (x.num.natAbs*y.den) (qs y) (y.num.natAbs*x.den)) (oN (qs x) (x.num.natAbs*y.den) (qs y) (y.num.natAbs*x.den)) (x.den*y.den)=x+y:=by
 unfold w9;rw[NF,Rat.add_def']
 congr 1
 have h:=fun(s:Bool) (a b:Nat)=>show uT s (a*b)=uT s a*(b:Int) by cases s<;>simp[uT,Int.neg_mul]
 rw[h,h,n_,n_]
theorem NI (x y:Rat):w9 (ql (qs x) (x.num.natAbs*y.den) (!qs y) (y.num.natAbs*x.den)) (oN (qs x) (x.num.natAbs*y.den) (!qs y) (y.num.natAbs*x.den)) (x.den*y.den)=x-y:=by
 unfold w9;rw[NF,Rat.sub_def']
 congr 1
 have h:=fun(s:Bool) (a b:Nat)=>show uT s (a*b)=uT s a*(b:Int) by cases s<;>simp[uT,Int.neg_mul]
 have h2:=fun(s:Bool) (a:Nat)=>show uT (!s) a=- uT s a by cases s<;>simp[uT]
 rw[h,h,h2,n_,n_,Int.neg_mul];omega
theorem Li (x y:Rat):qz (x*y)<=qz x+qz y:=by
 rw[<-NH];refine Nat.le_trans (Ce (Nat.mul_pos (den_pos x) (den_pos y))) ?_;have h1:=fu x.num.natAbs y.num.natAbs;have h2:=fu x.den y.den;unfold qz;omega
theorem qm (x y:Rat):qz (x+y)<=qz x+qz y+1:=by
 rw[<-GI];refine Nat.le_trans (Ce (Nat.mul_pos (den_pos x) (den_pos y))) ?_;have h1:=fu x.num.natAbs y.den;have h2:=fu y.num.natAbs x.den;have h3:=fu x.den y.den;have h4:=@w_ (qs x) (qs y) (x.num.natAbs*y.den) (y.num.natAbs*x.den);unfold qz;omega
theorem Tf (x y:Rat):qz (x-y)<=qz x+qz y+1:=by
 rw[<-NI];refine Nat.le_trans (Ce (Nat.mul_pos (den_pos x) (den_pos y))) ?_;have h1:=fu x.num.natAbs y.den;have h2:=fu y.num.natAbs x.den;have h3:=fu x.den y.den;have h4:=@w_ (qs x) (!qs y) (x.num.natAbs*y.den) (y.num.natAbs*x.den);unfold qz;omega
theorem GJ (x y:Rat)(hx:qz x<=100000)(hy:qz y<=100000):Ca E0 ahP [.d (qD x),.d (qD y)] (.d (qD (x+y)),none):=by
 obtain⟨k1,t1⟩:=(B_ x (by omega)).any;obtain⟨k2,t2⟩:=(B_ y (by omega)).any;have hx1:sz x.num.natAbs<=100000:=Nat.le_trans (Nat.le_max_left _ _) hx;have hx2:sz x.den<=100000:=Nat.le_trans (Nat.le_max_right _ _) hx;have hy1:sz y.num.natAbs<=100000:=Nat.le_trans (Nat.le_max_left _ _) hy;have hy2:sz y.den<=100000:=Nat.le_trans (Nat.le_max_right _ _) hy;have b1:=fu x.num.natAbs y.den;have b2:=fu y.num.natAbs x.den;have b3:=fu x.den y.den;have b4:=@w_ (qs x) (qs y) (x.num.natAbs*y.den) (y.num.natAbs*x.den);obtain⟨k3,t3⟩:=(IY (qs x) (qs y) (n1:=x.num.natAbs) (d1:=x.den) (n2:=y.num.natAbs) (d2:=y.den) (by omega) (by omega) (by omega) (by omega)).any;obtain⟨k5,t5⟩:=(GH (s:=ql (qs x) (x.num.natAbs*y.den) (qs y) (y.num.natAbs*x.den)) (n:=oN (qs x) (x.num.natAbs*y.den) (qs y) (y.num.natAbs*x.den)) (d:=x.den*y.den) (by omega) (by omega) (Nat.mul_pos (den_pos x) (den_pos y))).any;rw[GI]at t5;replace t1:=t1 (k1+k2+k3+k5) (by omega);replace t2:=t2 (k1+k2+k3+k5) (by omega);replace t3:=t3 (k1+k2+k3+k5) (by omega);replace t5:=t5 (k1+k2+k3+k5) (by omega);generalize k1+k2+k3+k5=N,oN (qs x) (x.num.natAbs*y.den) (qs y) (y.num.natAbs*x.den)=n,ql (qs x) (x.num.natAbs*y.den) (qs y) (y.num.natAbs*x.den)=ss,x.den*y.den=d at*;refine Ca.bD (n:=N+80) ?_;rw[av rfl (k114:E0.fn _=_) rfl];simp only[fqR,fq,qD,raw,LD]at*;generalize qs x=s1,qs y=s2,LL (enc x.num.natAbs)=x1,LL (enc y.num.natAbs)=x2,LL (enc x.den)=x3,LL (enc y.den)=x4,LL (qn x)=z1,LL (qn y)=z2,LL (qd x)=z3,LL (qd y)=z4,LL (enc n)=x7,LL (enc d)=x8,LL (qn (x+y))=x9,LL (qd (x+y))=y1,qs (x+y)=sg at*;simp -implicitDefEqProofs[f114,t1,t2,t3,t5]
theorem X8 (x y:Rat)(hx:qz x<=100000)(hy:qz y<=100000):Ca E0 ahQ [.d (qD x),.d (qD y)] (.d (qD (x-y)),none):=by
 obtain⟨k1,t1⟩:=(B_ x (by omega)).any;obtain⟨k2,t2⟩:=(B_ y (by omega)).any;have hx1:sz x.num.natAbs<=100000:=Nat.le_trans (Nat.le_max_left _ _) hx;have hx2:sz x.den<=100000:=Nat.le_trans (Nat.le_max_right _ _) hx;have hy1:sz y.num.natAbs<=100000:=Nat.le_trans (Nat.le_max_left _ _) hy;have hy2:sz y.den<=100000:=Nat.le_trans (Nat.le_max_right _ _) hy;have b1:=fu x.num.natAbs y.den;have b2:=fu y.num.natAbs x.den;have b3:=fu x.den y.den;have b4:=@w_ (qs x) (!qs y) (x.num.natAbs*y.den) (y.num.natAbs*x.den);obtain⟨k3,t3⟩:=(IY (qs x) (!qs y) (n1:=x.num.natAbs) (d1:=x.den) (n2:=y.num.natAbs) (d2:=y.den) (by omega) (by omega) (by omega) (by omega)).any;obtain⟨k4,t4⟩:=(X7 (qs y) y.num.natAbs y.den).any;obtain⟨k5,t5⟩:=(GH (s:=ql (qs x) (x.num.natAbs*y.den) (!qs y) (y.num.natAbs*x.den)) (n:=oN (qs x) (x.num.natAbs*y.den) (!qs y) (y.num.natAbs*x.den)) (d:=x.den*y.den) (by omega) (by omega) (Nat.mul_pos (den_pos x) (den_pos y))).any;rw[NI]at t5;replace t1:=t1 (k1+k2+k3+k4+k5) (by omega);replace t2:=t2 (k1+k2+k3+k4+k5) (by omega);replace t3:=t3 (k1+k2+k3+k4+k5) (by omega);replace t4:=t4 (k1+k2+k3+k4+k5) (by omega);replace t5:=t5 (k1+k2+k3+k4+k5) (by omega);generalize k1+k2+k3+k4+k5=N,oN (qs x) (x.num.natAbs*y.den) (!qs y) (y.num.natAbs*x.den)=n,ql (qs x) (x.num.natAbs*y.den) (!qs y) (y.num.natAbs*x.den)=ss,x.den*y.den=d at*;refine Ca.bD (n:=N+80) ?_;rw[av rfl (k191:E0.fn _=_) rfl];simp only[fqR,fq,qD,raw,LD]at*;generalize (!qs y)=s3,qs x=s1 at*;generalize qs y=s2,LL (enc x.num.natAbs)=x1,LL (enc y.num.natAbs)=x2,LL (enc x.den)=x3,LL (enc y.den)=x4,LL (qn x)=z1,LL (qn y)=z2,LL (qd x)=z3,LL (qd y)=z4,LL (enc n)=x7,LL (enc d)=x8,LL (qn (x-y))=x9,LL (qd (x-y))=y1,qs (x-y)=sg at*;simp -implicitDefEqProofs[f191,t1,t2,t3,t4,t5]
theorem xe (x:Rat)(hx:qz x<=1000000):Ca E0 134 [.d (qD x)] (.d (.v (.int .i64 x.num.sign)),none):=by
 obtain⟨N,t⟩:=(B_ x hx).get;refine Ca.bD (n:=N+60) ?_;rw[av rfl (k134:E0.fn _=_) rfl];simp only[fqR,fq,qD,raw,LD]at*;have hq:enc x.num.natAbs=qn x:=rfl;rw[hq]at t;have hs:(LL (qn x)=[]/\x.num.sign=0)\/(LL (qn x)≠[]/\qs x=true/\x.num.sign=-1)\/(LL (qn x)≠[]/\qs x=false/\x.num.sign=1):=by
  have hnil:LL (qn x)=[]↔x.num.natAbs=0:=by simp only[LL,List.map_eq_nil_iff];exact dQ
  rw[Ne,hnil];rcases Int.lt_trichotomy x.num 0 with h|h|h
  ·exact .inr (.inl ⟨by omega,decide_eq_true h,Int.sign_eq_neg_one_of_neg h⟩)
  ·exact .inl ⟨by omega,by rw[h];rfl⟩
  ·exact .inr (.inr ⟨by omega,decide_eq_false (by omega),Int.sign_eq_one_of_pos h⟩)
 generalize LL (qn x)=z1,LL (qd x)=z3,LL (enc x.den)=x3,qs x=s at*;rcases hs with ⟨a,b⟩|⟨a,b,c⟩|⟨a,b,c⟩
 ·rw[b];subst a;simp -implicitDefEqProofs[f134,t]
 ·rw[c];subst b;simp -implicitDefEqProofs[f134,t,a]
 ·rw[c];subst b;simp -implicitDefEqProofs[f134,t,a]
theorem Ac (x y:Rat)(hx:qz x<=100000)(hy:qz y<=100000):Ca E0 135 [.d (qD x),.d (qD y)] (.d (.v (.int .i64 (x-y).num.sign)),none):=by
 obtain⟨k1,t1⟩:=(X8 x y hx hy).any;have:=Tf x y;obtain⟨k2,t2⟩:=(xe (x-y) (by omega)).any;replace t1:=t1 (k1+k2) (by omega);replace t2:=t2 (k1+k2) (by omega);generalize k1+k2=N at*;refine Ca.bD (n:=N+80) ?_;rw[av rfl (k135:E0.fn _=_) rfl];generalize (x-y).num.sign=res at*;simp only[qD,raw,LD]at*;generalize LL (qn x)=z1,LL (qn y)=z2,LL (qd x)=z3,LL (qd y)=z4,LL (qn (x-y))=x9,LL (qd (x-y))=y1 at*;simp -implicitDefEqProofs[f135,t1,t2]
theorem IZ (x:Rat):w9 (qs x) x.num.natAbs x.den=x:=by
 unfold w9;rw[n_,Rat.mkRat_self]
theorem X9 (x y:Rat)(hy:y≠0):w9 (qs x != qs y) (x.num.natAbs*y.den) (x.den*y.num.natAbs)=x / y:=by
 have hyn:y.num≠0:=fun h=>hy (Rat.num_eq_zero.1 h)
 have e1:uT (qs x != qs y) (x.num.natAbs*y.den)=x.num*(y.den*y.num.sign):=by
  have h:=NG (qs x) (qs y) x.num.natAbs y.den;rw[h,n_]
  congr 1
  rcases Int.lt_trichotomy y.num 0 with h|h|h
  ·rw[show qs y=true from decide_eq_true h,Int.sign_eq_neg_one_of_neg h];simp[uT]
  ·exact absurd h hyn
  ·rw[show qs y=false from decide_eq_false (by omega),Int.sign_eq_one_of_pos h];simp[uT]
 have e2:((x.den*y.num.natAbs:Nat):Int)=x.den*(y.num*y.num.sign):=by
  rw[Int.mul_sign_self];simp
 have hs:((y.num.sign:Int):Rat)≠0:=by
  intro e;have:y.num.sign=0:=by exact_mod_cast e
  exact hyn (Int.sign_eq_zero_iff_zero.1 this)
 have hxd:((x.den:Int):Rat)≠0:=by have:=x.den_nz;exact_mod_cast this
 have hyd:((y.den:Int):Rat)≠0:=by have:=y.den_nz;exact_mod_cast this
 have akK:((y.num:Int):Rat)≠0:=by exact_mod_cast hyn
 have hx:x=(x.num:Rat) / ((x.den:Int):Rat):=by
  conv=>lhs;rw[<-Rat.mkRat_self x,Rat.mkRat_eq_div]
  rfl
 have hy':y=(y.num:Rat) / ((y.den:Int):Rat):=by
  conv=>lhs;rw[<-Rat.mkRat_self y,Rat.mkRat_eq_div]
  rfl
 unfold w9;rw[Rat.mkRat_eq_div,e1];have e3:(((x.den*y.num.natAbs:Nat)):Rat)=((x.den*(y.num*y.num.sign):Int):Rat):=by rw[<-e2];rfl
 rw[e3];simp only[Rat.intCast_mul]
 conv=>rhs;rw[hx,hy']
 generalize ((y.num.sign:Int):Rat)=a,((x.den:Int):Rat)=b,((y.den:Int):Rat)=c,((y.num:Int):Rat)=d,((x.num:Int):Rat)=e at*;grind
theorem abS (x:Rat):qz (-x)=qz x:=by simp[qz]
theorem NJ {n:Nat}(h:n<18446744073709551616):trim [n % 4294967296,n / 4294967296]=enc n:=by
 rw[cu (by intro y hy;simp at hy;omega)]
 congr 1
 simp[val];omega
theorem I6 (v:Int)(hv:-9223372036854775808<=v/\v<9223372036854775808):Ca E0 227 [.d (.v (.int .i64 v))] (.d (.t [.v (.bool (decide (v<0))),LD (enc v.natAbs)]),none):=by
 obtain⟨n0,hc⟩:=(g_ [v.natAbs % 4294967296,v.natAbs / 4294967296] (by simp)).get;rw[NJ (by omega)]at hc;have hn:v.natAbs<18446744073709551616:=by omega
 refine Ca.bD (n:=n0+60) ?_;rw[av rfl (k227:E0.fn _=_) rfl];have w2:ak .u32 (v.natAbs:Int)=((v.natAbs % 4294967296:Nat):Int):=by rw[dz];omega
 have w3:Int.fdiv (v.natAbs:Int) 4294967296=((v.natAbs / 4294967296:Nat):Int):=by
  rw[Int.fdiv_eq_ediv_of_nonneg _ (by omega)];omega
 have w4:ak .u32 ((v.natAbs / 4294967296:Nat):Int)=((v.natAbs / 4294967296:Nat):Int):=wrap_u32 (by omega);have hl:(LL (enc v.natAbs))=LL (enc v.natAbs):=rfl;simp only[LD,LL,List.map_cons,List.map_nil]at hc ⊢;generalize List.map (fun(x:Nat)=>D.v (Value.int IntKind.u32 (x:Int))) (enc v.natAbs)=res at*
 by_cases h:v<0
 ·have w1:ak .u64 v=v+18446744073709551616:=by rw[fT];omega
  have w5:IntKind.wrap .u64 (-(v+18446744073709551616))=(v.natAbs:Int):=by rw[<-b_,fT];omega
  have hd:decide (v<0)=true:=decide_eq_true h;rw[hd];generalize v.natAbs / 4294967296=hi,v.natAbs % 4294967296=lo at*;generalize v.natAbs=va at*;simp -implicitDefEqProofs[IntKind.bits,f227,gZ,h,w1,w2,w3,w4,w5,hc]
 ·have w1:ak .u64 v=(v.natAbs:Int):=by rw[fT];omega
  have hd:decide (v<0)=false:=decide_eq_false h;rw[hd];generalize v.natAbs / 4294967296=hi,v.natAbs % 4294967296=lo at*;generalize v.natAbs=va at*;simp -implicitDefEqProofs[IntKind.bits,f227,gZ,h,w1,w2,w3,w4,hc]
def uU (a b:Int):Rat:=w9 (decide (a<0) != decide (b<0)) a.natAbs b.natAbs
theorem GK {v:Int}(hv:-9223372036854775808<=v/\v<9223372036854775808):sz v.natAbs<=2:=Ab (k:=2) (by
 have:(4294967296:Nat) ^ 2=18446744073709551616:=by rfl
 omega)
theorem X_ (a b:Int)(ha:-9223372036854775808<=a/\a<9223372036854775808)(hb:-9223372036854775808<=b/\b<9223372036854775808)(h0:b≠0) :
  Ca E0 184 [.d (.v (.int .i64 a)),.d (.v (.int .i64 b))] (.d (.t [qD (uU a b),.v (.int .i64 0)]),none):=by
 have l1:=GK ha;have l2:=GK hb;obtain⟨Kq,_,t1,t2,t3⟩:=((I6 a ha).j ((I6 b hb).j ((GH (s:=decide (a<0) != decide (b<0)) (n:=a.natAbs) (d:=b.natAbs) (by omega) (by omega) (by omega)).any))).at 0;have e:w9 (decide (a<0) != decide (b<0)) a.natAbs b.natAbs=uU a b:=rfl;rw[e]at t3;generalize Kq=N at*;refine Ca.bD (n:=N+80) ?_;rw[av rfl (k184:E0.fn _=_) rfl];have hb0:(b==0)=false:=by simpa using h0
 simp only[fq,qD,raw,LD]at*;generalize LL (qn (uU a b))=x9,LL (qd (uU a b))=y1,qs (uU a b)=sg,LL (enc a.natAbs)=x1,LL (enc b.natAbs)=x2,decide (a<0)=s1,decide (b<0)=s2 at*;simp only[bne]at t3;simp -implicitDefEqProofs[f184,gZ,t1,t2,t3,hb0]
theorem abT (a b:Int)(h0:b≠0):uU a b=(a:Rat) / (b:Rat):=by
 have h:∀ v:Int,qs ((v:Int):Rat)=decide (v<0)/\((v:Int):Rat).num=v/\((v:Int):Rat).den=1:=fun v=>⟨by unfold qs;rfl,rfl,rfl⟩
 have hb:((b:Int):Rat)≠0:=by exact_mod_cast h0
 rw[<-X9 _ _ hb,(h a).1,(h b).1,(h a).2.1,(h a).2.2,(h b).2.1,(h b).2.2];simp[uU]
end Fi.S
