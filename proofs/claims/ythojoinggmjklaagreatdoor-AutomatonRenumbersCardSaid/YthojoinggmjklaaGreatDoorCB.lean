import Derived.Test.YthojoinggmjklaaGreatDoorCA
set_option linter.unusedVariables false
set_option linter.unusedSimpArgs false
noncomputable section
namespace Fi.S
open Go Fi
set_option maxHeartbeats 8000000
theorem yB {n k:Nat}(h1:4294967296 ^ k<=n)(h2:n<4294967296 ^ (k+1)):(enc n).length=k+1:=by
 have a:=fo h2;rcases Nat.lt_or_ge k (enc n).length with h|h
 ·omega
 ·exfalso;have h3:=mE (aP n);rw[aS]at h3;have h4:=Nat.pow_le_pow_right (n:=4294967296) (by omega) h;omega
theorem y9 {u:Nat}(h:0<u):enc u=u % 4294967296::enc (u / 4294967296):=by
 rw[enc,if_neg (by omega)]
theorem um (n:Nat):∀ (u:Nat),bu (enc u) n=u / 4294967296 ^ n % 4294967296:=by
 induction n with
 | zero =>
  intro u;rcases Nat.eq_zero_or_pos u with rfl|h
  ·simp[bW,bu]
  ·rw[y9 h];simp[bu]
 | succ n ih =>
  intro u;rcases Nat.eq_zero_or_pos u with rfl|h
  ·simp[bW,bu]
  ·have:bu (enc u) (n+1)=bu (enc (u / 4294967296)) n:=by rw[y9 h];simp[bu]
   rw[this,ih,Nat.div_div_eq_div_mul,Nat.pow_succ,Nat.mul_comm]
theorem Ud (k:Nat):∀ {y:Nat},4294967296 ^ k<=y->y<4294967296 ^ (k+1)->∃ lo,enc y=lo++[y / 4294967296 ^ k]/\lo.length=k:=by
 induction k with
 | zero =>
  intro y h1 h2;simp at h1 h2;refine⟨[],?_,rfl⟩;rw[mM (by omega) (by omega)];simp
 | succ k ih =>
  intro y h1 h2;have hp:0<4294967296 ^ (k+1):=Nat.pow_pos (by omega);obtain⟨lo,e,hl⟩:=ih (y:=y / 4294967296) (by rw[Nat.le_div_iff_mul_le (by omega),<-Nat.pow_succ];exact h1) (by rw[Nat.div_lt_iff_lt_mul (by omega),<-Nat.pow_succ];exact h2);refine⟨y % 4294967296::lo,?_,by simp[hl]⟩;rw[y9 (by omega),e,Nat.div_div_eq_div_mul,Nat.pow_succ,Nat.mul_comm (4294967296 ^ k)];rfl
theorem Fy {x:Nat}(h:0<x):2 ^ (fu x-1)<=x/\x<2 ^ fu x:=by
 unfold fu;rw[if_neg (by omega)];exact⟨Nat.log2_self_le (by omega),Nat.lt_log2_self⟩
theorem OZ {y k:Nat}(h1:4294967296 ^ k<=y)(h2:y<4294967296 ^ (k+1)) :
  y*2 ^ (32-fu (y / 4294967296 ^ k))<4294967296 ^ (k+1)/\4294967296 ^ k<=y*2 ^ (32-fu (y / 4294967296 ^ k)):=by
 have hp:0<4294967296 ^ k:=Nat.pow_pos (by omega);have ht0:0<y / 4294967296 ^ k:=Nat.div_pos h1 hp;have ht1:y / 4294967296 ^ k<4294967296:=by rw[Nat.div_lt_iff_lt_mul hp,Nat.mul_comm,<-Nat.pow_succ];exact h2
 have hb:=Fy ht0;have hb2:=yA ht1;have hy:y<(y / 4294967296 ^ k+1)*4294967296 ^ k:=by
  have:=Nat.lt_mul_div_succ y hp;rw[Nat.mul_comm];exact this
 generalize y / 4294967296 ^ k=t at*;have hq:2 ^ fu t*2 ^ (32-fu t)=4294967296:=by rw[<-Nat.pow_add,show fu t+(32-fu t)=32 by omega]
 have hr:0<2 ^ (32-fu t):=Nat.pow_pos (by omega);generalize 2 ^ (32-fu t)=r,2 ^ fu t=s at*;constructor
 ·rw[Nat.pow_succ]
  calc y*r<(t+1)*4294967296 ^ k*r:=Nat.mul_lt_mul_of_pos_right hy hr
   _<=s*4294967296 ^ k*r:=Nat.mul_le_mul_right _ (Nat.mul_le_mul_right _ hb.2)
   _=4294967296 ^ k*4294967296:=by rw[Nat.mul_right_comm,hq,Nat.mul_comm]
 ·exact Nat.le_trans h1 (Nat.le_mul_of_pos_right _ hr)
theorem O0 {u v k j:Nat}(hv:4294967296 ^ k<=v)(hu:u<v*4294967296 ^ j*4294967296) :
  u / (v*4294967296 ^ j)<=min (u / 4294967296 ^ (j+k) / (v / 4294967296 ^ k)) 4294967295:=by
 have hp:0<4294967296 ^ k:=Nat.pow_pos (by omega);have hp2:0<4294967296 ^ j:=Nat.pow_pos (by omega);have hvt:0<v / 4294967296 ^ k:=Nat.div_pos hv hp;have hw:0<v*4294967296 ^ j:=Nat.mul_pos (by omega) hp2;have h1:u / (v*4294967296 ^ j)<4294967296:=by rw[Nat.div_lt_iff_lt_mul hw,Nat.mul_comm];exact hu
 have h2:=Nat.div_mul_le_self u (v*4294967296 ^ j);have h3:=Nat.div_mul_le_self v (4294967296 ^ k);have:u / (v*4294967296 ^ j)<=u / 4294967296 ^ (j+k) / (v / 4294967296 ^ k):=by
  rw[Nat.le_div_iff_mul_le hvt,Nat.le_div_iff_mul_le (Nat.pow_pos (by omega))];generalize u / (v*4294967296 ^ j)=d,v / 4294967296 ^ k=t at*;rw[Nat.pow_add];generalize 4294967296 ^ k=K,4294967296 ^ j=J at*
  calc d*t*(J*K)=d*(t*K*J):=by grind
   _<=d*(v*J):=Nat.mul_le_mul_left _ (Nat.mul_le_mul_right _ h3)
   _<=u:=h2
 omega
theorem Lx {u n:Nat}(h:u<4294967296 ^ (n+2)):bu (enc u) (n+1)*4294967296+bu (enc u) n=u / 4294967296 ^ n/\bu (enc u) (n+1)<4294967296/\bu (enc u) n<4294967296:=by
 rw[um,um];have hp:0<4294967296 ^ n:=Nat.pow_pos (by omega);have h1:u / 4294967296 ^ (n+1)=u / 4294967296 ^ n / 4294967296:=by rw[Nat.div_div_eq_div_mul,Nat.pow_succ]
 have h2:u / 4294967296 ^ n<4294967296*4294967296:=by
  rw[Nat.div_lt_iff_lt_mul hp];rw[Nat.pow_add]at h;have e:(4294967296:Nat) ^ 2=4294967296*4294967296:=by rfl
  rw[e,Nat.mul_comm]at h;exact h
 rw[h1];generalize u / 4294967296 ^ n=t at*;have h3:t / 4294967296<4294967296:=by omega
 omega
theorem O1 {u w X Q B:Nat}(hB:X=Q*B*w+u):X=(u / w+B*Q)*w+u % w:=by
 have:=Nat.div_add_mod u w;rw[Nat.add_mul,Nat.mul_comm B Q,Nat.mul_comm (u / w) w];omega
end Fi.S
namespace Fi.S
open Go Fi
set_option maxHeartbeats 8000000
def xZ:aD:=xh.body.r.r.r.r.r.l.r.bl.lp
def oiB:aD:=xZ.r.l.bl.r.r.r.l.bl.lp
def Ue (up u v:Nat)(es:List D)(L j g p:Nat)(t:FV):St:=(st0 [.u,.u,.ls (.loc 0) 0 1 0 L,.u,.u,.u,.d (.v (.int .i64 up)),.d (LD (enc u)),.d (LD (enc v)),.d (.v (.int .i64 j)),.u,.d (.v (.int .u64 g)),.d (LD (enc p)),.u,.u,t] [.row 0 1 es])
theorem Il (up u v L j d:Nat)(es:List D)(hv:0<v)(hj:j<=100000000)(lu:(enc u).length<=100000000)(lv:(enc v).length<=100000000)(lw:(enc (v*4294967296 ^ j*4294967295)).length<=100000000)
  (hd:d=u / (v*4294967296 ^ j)) (g:Nat) (hg:d<=g) (hg2:g<=4294967295) :
  Ex E0 (.loop oiB) (Ue up u v es L j g (v*4294967296 ^ j*g) .u) (.exit 2,Ue up u v es L j d (v*4294967296 ^ j*d) (.d (.v (.bool false)))):=by
 have hw:0<v*4294967296 ^ j:=Nat.mul_pos hv (Nat.pow_pos (by omega));have hl:=yx (enc v) (32*j) (by omega) lv (aP _);rw[aS,Nat.pow_mul,show(2:Nat) ^ 32=4294967296 by rfl]at hl;generalize v*4294967296 ^ j=w at*;have key:=Ex.inv (E:=E0) (b:=oiB) (S:=fun g=>Ue up u v es L j g (w*g) .u) (fun g=>g) (fun g=>d<=g/\g<=4294967295) (fun r=>r=(.exit 2,Ue up u v es L j d (w*d) (.d (.v (.bool false))))) ?_ g ⟨hg,hg2⟩
 ·obtain⟨r,hr,rfl⟩:=key;exact hr
 ·clear hg hg2 g;rintro g ⟨h1,h2⟩;have lp:(enc (w*g)).length<=100000000:=Nat.le_trans (bC (Nat.mul_le_mul_left w h2)) lw;obtain⟨n1,hc⟩:=(vS (enc u) (enc (w*g)) (by omega) (by omega) (aP _) (aP _)).any;rw[aS,aS]at hc
  by_cases hlt:d<g
  ·have hu:u<w*g:=by rw[hd,Nat.div_lt_iff_lt_mul hw,Nat.mul_comm]at hlt;exact hlt
   have hc1:dx u (w*g)=-1:=by unfold dx;rw[if_pos hu]
   rw[hc1]at hc;have hle:w<=w*g:=Nat.le_mul_of_pos_right w (by omega);obtain⟨n2,hl⟩:=hl.any;obtain⟨n3,hm⟩:=(yV (enc (w*g)) (enc w) (by omega) (bC hle) (aP _) (aP _) (by rw[aS,aS];exact hle)).any;have hsub:w*g-w=w*(g-1):=by rw[Nat.mul_sub,Nat.mul_one]
   rw[aS,aS,hsub]at hm;replace hc:=hc (n1+n2+n3) (by omega);replace hl:=hl (n1+n2+n3) (by omega);replace hm:=hm (n1+n2+n3) (by omega);generalize n1+n2+n3=N at*;refine .inl ⟨g-1,Ex.of (n:=N+60) ?_,by omega,by omega,by omega⟩;have w1:ak .u64 ((g:Int)-1)=((g-1:Nat):Int):=by rw[wrap_u64 (by omega)];omega
   have w2:ak .i64 (32*(j:Int))=((32*j:Nat):Int):=by rw[wrap_i64 (by omega)];omega
   clear hc1 hsub lp lw hd;unfold Ue;simp only[LD]at hc hl hm ⊢;generalize LL (enc u)=us,LL (enc v)=vs,LL (enc w)=ws,LL (enc (w*g))=ps,LL (enc (w*(g-1)))=ps' at*;generalize g-1=g',32*j=j32 at*;simp -implicitDefEqProofs[xZ,oiB,f226,hc,hl,hm,w1,w2]
  ·have hu:¬ u<w*g:=by rw[hd,Nat.div_lt_iff_lt_mul hw,Nat.mul_comm]at hlt;exact hlt
   have hg:g=d:=by omega
   have hc1:(dx u (w*g):Int)=0\/dx u (w*g)=1:=by unfold dx;rw[if_neg hu];split<;>simp
   replace hc:=hc n1 (by omega);refine .inr ⟨_,Ex.of (n:=n1+60) ?_,by simp,rfl⟩;rw[<-hg];clear lp lw hd hg;unfold Ue;simp only[LD]at hc ⊢;generalize LL (enc u)=us,LL (enc v)=vs,LL (enc (w*g))=ps at*;rcases hc1 with e|e<;>rw[e]at hc<;>simp -implicitDefEqProofs[xZ,oiB,f226,hc]
def y_ (up u v:Nat)(es:List D)(L:Nat)(k:Int)(t:FV):St:=(st0 [.u,.u,.ls (.loc 0) 0 1 0 L,.u,.u,.u,.d (.v (.int .i64 up)),.d (LD (enc u)),.d (LD (enc v)),.d (.v (.int .i64 k)),.u,.u,.u,.u,t,.u] [.row 0 1 es])
theorem Im (up u v k L j:Nat)(es:List D)(hv:4294967296 ^ k<=v)(hv2:v<4294967296 ^ (k+1))(hj:j<=100000000)(hk:k<=100000000)(lu:(enc u).length<=100000000)(hu:u<4294967296 ^ (j+k+2)) :
  Ex E0 xZ.r.l.bl.r.l {y_ up u v es L j .u with vars:=[.u,.u,.ls (.loc 0) 0 1 0 L,.u,.u,.u,.d (.v (.int .i64 up)),.d (LD (enc u)),.d (LD (enc v)),.d (.v (.int .i64 j)),.d (.v (.int .i64 ((j+k+1:Nat):Int))),.u,.u,.u,.u,.u]}
   (.norm,{y_ up u v es L j .u with vars:=[.u,.u,.ls (.loc 0) 0 1 0 L,.u,.u,.u,.d (.v (.int .i64 up)),.d (LD (enc u)),.d (LD (enc v)),.d (.v (.int .i64 j)),.u,.d (.v (.int .u64 ((min (u / 4294967296 ^ (j+k) / (v / 4294967296 ^ k)) 4294967295:Nat):Int))),.u,.u,.u,.u]}):=by
 have lv:(LL (enc v)).length=k+1:=by simp[LL,yB hv hv2]
 have lv':=yB hv hv2;obtain⟨e1,b1,b2⟩:=Lx hu;have e3:bu (enc v) k=v / 4294967296 ^ k:=by
  rw[um,Nat.mod_eq_of_lt];rw[Nat.div_lt_iff_lt_mul (Nat.pow_pos (by omega)),Nat.mul_comm,<-Nat.pow_succ];exact hv2
 have b3:v / 4294967296 ^ k<4294967296:=by rw[<-e3,um];exact Nat.mod_lt _ (by omega)
 have b4:0<v / 4294967296 ^ k:=Nat.div_pos hv (Nat.pow_pos (by omega));have h1:=fun m=>jo m (enc u) (by omega) (j+k+1) (by omega) (aP _)
 have h2:=fun m=>jo m (enc u) (by omega) (j+k) (by omega) (aP _)
 have h3:=fun m=>jo m (enc v) (by omega) k (by omega) (aP _)
 rw[e3]at h3;rw[<-e1];generalize bu (enc u) (j+k+1)=x1 at*;generalize bu (enc u) (j+k)=x0,v / 4294967296 ^ k=vt at*;have w1:=OL b1;have w2:=yY b1 b2;obtain⟨P,hP⟩:∃ P:Nat,(P:Int)=(x1:Int)*4294967296:=⟨x1*4294967296,by omega⟩
 obtain⟨T,hT⟩:∃ T:Nat,T=x1*4294967296+x0:=⟨_,rfl⟩
 rw[<-hP]at w1 w2;rw[show(P:Int)+(x0:Int)=(T:Int) by omega]at w2;rw[<-hT];have w5:Int.tdiv (T:Int) (vt:Int)=((T / vt:Nat):Int):=by rw[Int.tdiv_eq_ediv_of_nonneg (by omega),Int.natCast_ediv]
 have hq:T / vt<18446744073709551616:=Nat.lt_of_le_of_lt (Nat.div_le_self _ _) (by omega);generalize T / vt=Q at*;have w6:ak .u64 (Q:Int)=(Q:Int):=wrap_u64 (by omega);have w7:ak .i64 (((j+k+1:Nat):Int)-1)=((j+k:Nat):Int):=by rw[wrap_i64 (by omega)];omega
 have w8:ak .i64 (((k+1:Nat):Int)-1)=(k:Int):=by rw[wrap_i64 (by omega)];omega
 have hd0:¬ ((vt:Int)=0):=by omega
 have TY:¬ vt=0:=by omega
 clear hP hT e1 e3 hu hv hv2;obtain⟨G,hG⟩:∃ G:Nat,G=min Q 4294967295:=⟨_,rfl⟩
 rw[<-hG];have hmin:((4294967295:Int)<(Q:Int)/\(G:Int)=4294967295)\/(¬ (4294967295:Int)<(Q:Int)/\(Q:Int)=(G:Int)):=by omega
 clear hG;refine Ex.of (n:=90) ?_;unfold y_;simp only[LD]at h1 h2 h3 ⊢;generalize LL (enc u)=us,LL (enc v)=vs,j+k+1=n at*;generalize j+k=n1,k+1=m at*;rcases hmin with ⟨a,b⟩|⟨a,b⟩
 ·simp -implicitDefEqProofs[xZ,f226,lv,h1,h2,h3,w1,w2,w5,w6,w7,w8,hd0,TY,a,b]
 ·rw[b]at a w5 w6;simp -implicitDefEqProofs[xZ,f226,lv,h1,h2,h3,w1,w2,w5,w6,w7,w8,hd0,TY,a]
theorem O3 (up u v L:Nat)(es:List D):EX E0 60 xZ (y_ up u v es L (-1) .u)=some (.exit 0,y_ up u v es L (-1) (.d (.v (.bool false)))):=by
 unfold y_;simp only[LD];generalize LL (enc u)=us,LL (enc v)=vs at*;simp -implicitDefEqProofs[xZ,f226]
theorem LA (up u v L j g:Nat)(es:List D)(hj:j<=100000000)(hg:g<=4294967295)(lv:(enc v).length<=10000000) :
  Ex E0 xZ.r.l.bl.r.r.l {y_ up u v es L j .u with vars:=[.u,.u,.ls (.loc 0) 0 1 0 L,.u,.u,.u,.d (.v (.int .i64 up)),.d (LD (enc u)),.d (LD (enc v)),.d (.v (.int .i64 j)),.u,.d (.v (.int .u64 g)),.u,.u,.u,.u]}
   (.norm,Ue up u v es L j g (v*4294967296 ^ j*g) .u):=by
 have lg:(enc g).length<=1:=fo (k:=1) (by omega);have lvg:(enc (v*g)).length<=100000000:=by
  refine Nat.le_trans (fo (k:=(enc v).length+1) ?_) (by omega);have h1:=mE (aP v);rw[aS]at h1;rw[Nat.pow_succ];exact Nat.lt_of_le_of_lt (Nat.mul_le_mul_left v (show g<=4294967296 by omega)) (Nat.mul_lt_mul_of_pos_right h1 (by omega))
 obtain⟨Kq,_,h1,h2,h3⟩:=((f_ [g] (by simp)).j ((Fq (enc v) (enc g) (by omega) (by omega) (aP _) (aP _)).j ((yx (enc (v*g)) (32*j) (by omega) lvg (aP _)).any))).at 0;rw[Fs _ (by omega)]at h1;rw[aS,aS]at h2;rw[aS,Nat.pow_mul,show(2:Nat) ^ 32=4294967296 by rfl]at h3;rw[show v*g*4294967296 ^ j=v*4294967296 ^ j*g by rw[Nat.mul_right_comm]]at h3;generalize Kq=N at*;have w1:ak .u32 (g:Int)=(g:Int):=wrap_u32 (by omega);have w2:ak .i64 (32*(j:Int))=((32*j:Nat):Int):=by rw[wrap_i64 (by omega)];omega
 refine Ex.of (n:=N+60) ?_;unfold y_ Ue;simp only[LD,LL,List.map_cons,List.map_nil]at h1 h2 h3 ⊢;generalize List.map (fun(x:Nat)=>D.v (Value.int IntKind.u32 (x:Int))) (enc u)=us at*;generalize List.map (fun(x:Nat)=>D.v (Value.int IntKind.u32 (x:Int))) (enc v)=vs at*;generalize List.map (fun(x:Nat)=>D.v (Value.int IntKind.u32 (x:Int))) (enc g)=gs at*;generalize List.map (fun(x:Nat)=>D.v (Value.int IntKind.u32 (x:Int))) (enc (v*g))=vgs at*;generalize List.map (fun(x:Nat)=>D.v (Value.int IntKind.u32 (x:Int))) (enc (v*4294967296 ^ j*g))=ps at*;generalize 32*j=j32 at*;simp -implicitDefEqProofs[xZ,f226,h1,h2,h3,w1,w2]
theorem Io (up u v k L j:Nat)(qs:List Nat)(hv:4294967296 ^ k<=v)(hv2:v<4294967296 ^ (k+1))(hj:j<=50000000)(hk:k<=1000000)(lu:(enc u).length<=100000000)(hu:u<v*4294967296 ^ j*4294967296)
  (hL:j+1+qs.length=L) :
  Ex E0 xZ (y_ up u v (LL (jf (j+1) qs)) L j .u) (.norm,y_ up (u % (v*4294967296 ^ j)) v (LL (jf j (u / (v*4294967296 ^ j)::qs))) L ((j:Int)-1) .u):=by
 have hv0:0<v:=Nat.lt_of_lt_of_le (Nat.pow_pos (by omega)) hv;have hw:0<v*4294967296 ^ j:=Nat.mul_pos hv0 (Nat.pow_pos (by omega));have lv:=yB hv hv2;have hdig:=O0 hv hu;have hd32:u / (v*4294967296 ^ j)<4294967296:=by rw[Nat.div_lt_iff_lt_mul hw,Nat.mul_comm];exact hu
 have hu2:u<4294967296 ^ (j+k+2):=by
  refine Nat.lt_of_lt_of_le hu ?_;rw[show j+k+2=(k+1)+j+1 by omega,Nat.pow_succ,Nat.pow_add];exact Nat.mul_le_mul_right _ (Nat.mul_le_mul_right _ (by omega))
 have lw:(enc (v*4294967296 ^ j*4294967295)).length<=100000000:=by
  refine Nat.le_trans (fo (k:=(k+1)+j+1) ?_) (by omega);rw[Nat.pow_succ,Nat.pow_add];exact Nat.lt_of_le_of_lt (Nat.mul_le_mul_left _ (show 4294967295<=4294967296 by omega)) (Nat.mul_lt_mul_of_pos_right (Nat.mul_lt_mul_of_pos_right hv2 (Nat.pow_pos (by omega))) (by omega))
 have X5:=Im up u v k L j (LL (jf (j+1) qs)) hv hv2 (by omega) (by omega) lu hu2;have aa':=LA up u v L j (min (u / 4294967296 ^ (j+k) / (v / 4294967296 ^ k)) 4294967295) (LL (jf (j+1) qs)) (by omega) (Nat.min_le_right ..) (by omega);have X6:=Il up u v L j (u / (v*4294967296 ^ j)) (LL (jf (j+1) qs)) hv0 (by omega) lu (by omega) lw rfl _ hdig (Nat.min_le_right ..);have hmul:v*4294967296 ^ j*(u / (v*4294967296 ^ j))<=u:=Nat.mul_div_le u _;obtain⟨n1,hm⟩:=(yV (enc u) (enc (v*4294967296 ^ j*(u / (v*4294967296 ^ j)))) (by omega) (bC hmul) (aP _) (aP _) (by rw[aS,aS];exact hmul)).get;have hmod:u-v*4294967296 ^ j*(u / (v*4294967296 ^ j))=u % (v*4294967296 ^ j):=by
  have:=Nat.div_add_mod u (v*4294967296 ^ j);omega
 rw[aS,aS,hmod]at hm;have hz:=J9 qs j;have hset:=Fg qs j (u / (v*4294967296 ^ j));have hlen:=o7 qs (j+1);have hlv:(LL (enc v)).length=k+1:=by simp[LL,lv]
 generalize LL (jf (j+1) qs)=es at*;rw[<-hset];clear hset;generalize u / (v*4294967296 ^ j)=d,min (u / 4294967296 ^ (j+k) / (v / 4294967296 ^ k)) 4294967295=g at*;generalize v*4294967296 ^ j=w at*;have hjL:j<L:=by omega
 have hz2:=idx hz;have w1:ak .i64 ((j:Int)+((k+1:Nat):Int))=((j+k+1:Nat):Int):=by rw[wrap_i64 (by omega)];omega
 have w2:ak .u32 (d:Int)=(d:Int):=wrap_u32 (by omega);have w3:ak .i64 ((j:Int)-1)=(j:Int)-1:=wrap_i64 (by omega);have w4:(0:Int)<=(j:Int):=by omega
 show Ex E0 (.seq xZ.l (.seq (.block 1 (.seq xZ.r.l.bl.l (.seq xZ.r.l.bl.r.l (.seq xZ.r.l.bl.r.r.l (.seq (.block 2 (.loop oiB)) (.seq xZ.r.l.bl.r.r.r.r.l xZ.r.l.bl.r.r.r.r.r)))))) xZ.r.r)) _ _;refine Ex.seq (st1:=y_ up u v es L j (.d (.v (.bool true)))) (Ex.of (n:=40) ?_) (Ex.seq (st1:=y_ up (u % w) v (es.set j (.v (.int .u32 (d:Int)))) L j .u) (Ex.d9 (Ex.seq (Ex.of (n:=40) ?_) (Ex.seq X5 (Ex.seq aa' (Ex.seq X6.block
  (Ex.seq (st1:={y_ up (u % w) v es L j .u with vars:=[.u,.u,.ls (.loc 0) 0 1 0 L,.u,.u,.u,.d (.v (.int .i64 up)),.d (LD (enc (u % w))),.d (LD (enc v)),.d (.v (.int .i64 j)),.u,.d (.v (.int .u64 d)),.u,.u,.u,.u]}) (Ex.of (n:=n1+40) ?_) (Ex.of (n:=40) ?_))))))) (Ex.of (n:=40) ?_))
 ·unfold y_;simp only[LD];generalize LL (enc u)=us at*;generalize LL (enc v)=vs at*;simp -implicitDefEqProofs[xZ,f226,w4]
 ·unfold y_;simp only[LD];generalize LL (enc u)=us at*;generalize LL (enc v)=vs at*;generalize j+k+1=n at*;generalize k+1=m at*;simp -implicitDefEqProofs[xZ,f226,hlv,w1]
 ·unfold y_ Ue;simp only[LD]at hm ⊢;generalize LL (enc u)=us at*;generalize LL (enc v)=vs at*;generalize LL (enc (u % w))=ms at*;generalize LL (enc (w*d))=ps at*;simp -implicitDefEqProofs[xZ,f226,hm]
 ·unfold y_;simp only[LD];generalize LL (enc (u % w))=us at*;generalize LL (enc v)=vs at*;simp -implicitDefEqProofs[xZ,f226,hz,hz2,w2,w4,hjL,hlen]
 ·unfold y_;simp only[LD];generalize LL (enc (u % w))=us at*;generalize LL (enc v)=vs at*;simp -implicitDefEqProofs[xZ,f226,w3]
theorem LB (up u0 v k L:Nat)(hv:4294967296 ^ k<=v)(hv2:v<4294967296 ^ (k+1))(hL:L<=50000000)(hk:k<=1000000)(lu:(enc u0).length<=100000000)(hu:u0<v*4294967296 ^ L) :
  ∃ r,Ex E0 (.loop xZ) (y_ up u0 v (LL (jf L [])) L ((L:Int)-1) .u) r /\
   ∃ qs,bK qs/\qs.length=L/\val qs=u0 / v/\r=(.exit 0,y_ up (u0 % v) v (LL qs) L (-1) (.d (.v (.bool false)))):=by
 have hv0:0<v:=Nat.lt_of_lt_of_le (Nat.pow_pos (by omega)) hv;refine Ex.inv (S:=fun t:Nat × Nat × List Nat=>y_ up t.2.1 v (LL (jf t.1 t.2.2)) L ((t.1:Int)-1) .u) (fun t=>t.1)
  (fun t=>t.1+t.2.2.length=L/\bK t.2.2/\t.2.1<v*4294967296 ^ t.1/\u0=val t.2.2*4294967296 ^ t.1*v+t.2.1) _ ?_ (L,u0,[]) ?_
 ·rintro⟨j,u,qs⟩ ⟨h1,h2,h3,h4⟩;simp only at h1 h2 h3 h4;cases j with
  | zero =>
   simp only[Nat.pow_zero,Nat.mul_one]at h3 h4;have hd:u0 / v=val qs:=by rw[h4,Nat.mul_comm,Nat.mul_add_div hv0,Nat.div_eq_of_lt h3];rfl
   have hm:u0 % v=u:=by rw[h4,Nat.mul_comm,Nat.mul_add_mod,Nat.mod_eq_of_lt h3]
   refine .inr ⟨_,?_,?_,qs,h2,by omega,hd.symm,rfl⟩
   ·rw[hm];have:=O3 up u v L (LL qs);simpa[jf] using Ex.of this
   ·simp
  | succ j =>
   have hu0:u<=u0:=by omega
   have hw:0<v*4294967296 ^ j:=Nat.mul_pos hv0 (Nat.pow_pos (by omega));have h3':u<v*4294967296 ^ j*4294967296:=by rw[Nat.mul_assoc,<-Nat.pow_succ];exact h3
   have hr:=Io up u v k L j qs hv hv2 (by omega) hk (Nat.le_trans (bC hu0) lu) h3' (by omega);refine .inl ⟨(j,u % (v*4294967296 ^ j),u / (v*4294967296 ^ j)::qs),?_,by simp,?_,?_,?_,?_⟩
   ·simp only;rw[show(((j+1:Nat):Int)-1)=(j:Int) by omega];exact hr
   ·simp only[List.length_cons];omega
   ·intro y hy;rcases List.mem_cons.1 hy with rfl|hy
    ·rw[Nat.div_lt_iff_lt_mul hw,Nat.mul_comm];exact h3'
    ·exact h2 y hy
   ·exact Nat.mod_lt _ hw
   ·simp only[val];have e:u0=val qs*4294967296*(v*4294967296 ^ j)+u:=by
     rw[h4,Nat.pow_succ]
     congr 1
     generalize 4294967296 ^ j=P;grind
    rw[Nat.mul_assoc,Nat.mul_comm _ v];exact O1 e
 ·refine⟨by simp,?_,by simpa using hu,by simp[val]⟩;intro x hx;cases hx
theorem Ip {y:Nat}(hy:0<y):4294967296 ^ ((enc y).length-1)<=y:=by
 rcases Nat.lt_or_ge y (4294967296 ^ ((enc y).length-1)) with h|h
 ·have h1:=fo h;have h2:enc y≠[]:=by intro e;rw[dD]at e;omega
  have h3:0<(enc y).length:=List.length_pos_iff.2 h2;omega
 ·exact h
theorem vV (y:Nat):y<4294967296 ^ (enc y).length:=by
 have:=mE (aP y)
 rwa [aS]at this
theorem DD (x y:Nat)(hy:0<y)(lx:(enc x).length<=1000000)(ly:(enc y).length<=1000000) :
  Ca E0 WI [.d (LD (enc x)),.d (LD (enc y))] (.d (.t [LD (enc (x / y)),LD (enc (x % y))]),none):=by
 by_cases hsm:y<4294967296
 ·have:=OU (enc x) y (by omega) (aP x) hsm hy
  rwa [aS]at this
 ·have afp:0<(enc y).length:=List.length_pos_iff.2 (by intro e;rw[dD]at e;omega);obtain⟨k,hk⟩:∃ k,(enc y).length=k+1:=⟨(enc y).length-1,by omega⟩
  have h1:4294967296 ^ k<=y:=by have:=Ip hy;rw[hk]at this;simpa using this
  have h2:y<4294967296 ^ (k+1):=by have:=vV y;rwa [hk]at this
  have hk1:1<=k:=by
   rcases Nat.eq_zero_or_pos k with rfl|h
   ·simp at h2;omega
   ·exact h
  obtain⟨lo,htop,hlo⟩:=Ud k h1 h2;obtain⟨g1,g2⟩:=OZ h1 h2;have ht1:y / 4294967296 ^ k<4294967296:=by rw[Nat.div_lt_iff_lt_mul (Nat.pow_pos (by omega)),Nat.mul_comm,<-Nat.pow_succ];exact h2
  have hbl:=yA ht1;have DF:=fun m=>Ik m lo (y / 4294967296 ^ k) ht1 (by omega)
  rw[<-htop,hlo]at DF;generalize hbe:fu (y / 4294967296 ^ k)=bl at*;generalize hup:32-bl=up at*;have aba:up<=32:=by omega
  obtain⟨n1,hlx⟩:=(yx (enc x) up (by omega) (by omega) (aP x)).any;obtain⟨n2,hly⟩:=(yx (enc y) up (by omega) (by omega) (aP y)).any;rw[aS]at hlx hly;have hp:0<2 ^ up:=Nat.pow_pos (by omega);have lu:(enc (x*2 ^ up)).length<=(enc x).length+1:=by
   refine fo ?_;rw[Nat.pow_succ];have e1:=vV x;have e2:2 ^ up<=4294967296:=by
    have:=Nat.pow_le_pow_right (n:=2) (by omega) aba;simpa using this
   exact Nat.lt_of_lt_of_le (Nat.mul_lt_mul_of_pos_right e1 hp) (Nat.mul_le_mul_left _ e2)
  have hq:(x*2 ^ up) / (y*2 ^ up)=x / y:=Nat.mul_div_mul_right x y hp;have hr:(x*2 ^ up) % (y*2 ^ up)=x % y*2 ^ up:=Nat.mul_mod_mul_right (2 ^ up) x y;have hr2:x % y*2 ^ up / 2 ^ up=x % y:=Nat.mul_div_cancel _ hp;have hlv:(enc (y*2 ^ up)).length=k+1:=yB g2 g1;have lr:(enc (x % y*2 ^ up)).length<=100000000:=Nat.le_trans (bC (Nat.mul_le_mul_right _ (Nat.mod_le x y))) (by omega);obtain⟨n3,DI⟩:=(OW (enc (x % y*2 ^ up)) up (by omega) lr (aP _)).any;rw[aS,hr2]at DI;have hu0:x*2 ^ up<y*2 ^ up*4294967296 ^ ((enc (x*2 ^ up)).length-k):=by
   refine Nat.lt_of_lt_of_le (vV (x*2 ^ up)) ?_;refine Nat.le_trans ?_ (Nat.mul_le_mul_right _ g2);rw[<-Nat.pow_add];exact Nat.pow_le_pow_right (by omega) (by omega)
  obtain⟨r,hloop,qs,hqs,XT,hqv,rfl⟩:=LB up (x*2 ^ up) (y*2 ^ up) k ((enc (x*2 ^ up)).length-k) g2 g1 (by omega) (by omega) (by omega) hu0;rw[hq]at hqv;rw[hr]at hloop;obtain⟨n4,hc⟩:=(f_ qs (by omega)).any;rw[bS hqs,hqv]at hc;replace hlx:=hlx (n1+n2+n3+n4) (by omega);replace hly:=hly (n1+n2+n3+n4) (by omega);replace DI:=DI (n1+n2+n3+n4) (by omega);replace hc:=hc (n1+n2+n3+n4) (by omega);generalize n1+n2+n3+n4=N at*;have hlY:(LL (enc y)).length=k+1:=by simp[LL,hk]
  have hlV:(LL (enc (y*2 ^ up))).length=k+1:=by simp[LL,hlv]
  have hlU:(LL (enc (x*2 ^ up))).length=(enc (x*2 ^ up)).length:=by simp[LL]
  have hlQ:(LL qs).length=(enc (x*2 ^ up)).length-k:=by simp[LL,XT]
  have hz:LL (jf ((enc (x*2 ^ up)).length-k) [])=List.replicate ((enc (x*2 ^ up)).length-k) (.v (.int .u32 0)):=by simp[LL,jf]
  have hLb:(enc (x*2 ^ up)).length-k<=2000000:=by omega
  have hmax:∃ z:Int,z=((enc (x*2 ^ up)).length:Int)-((k+1:Nat):Int)+1/\((z > 0/\z=(((enc (x*2 ^ up)).length-k:Nat):Int))\/(¬ z > 0/\(enc (x*2 ^ up)).length-k=0)):=⟨_,rfl,by omega⟩
  obtain⟨z,hze,hzc⟩:=hmax;have lU:(enc (x*2 ^ up)).length<=1000001:=by omega
  have w1:ak .i64 (32*((k+1:Nat):Int))=((32*(k+1):Nat):Int):=by rw[wrap_i64 (by omega)];omega
  have w2:ak .i64 (((32*(k+1):Nat):Int)-((32*k+bl:Nat):Int))=(up:Int):=by rw[wrap_i64 (by omega)];omega
  have w3:ak .i64 (((enc (x*2 ^ up)).length:Int)-((k+1:Nat):Int))=((enc (x*2 ^ up)).length:Int)-((k+1:Nat):Int):=wrap_i64 (by omega);have w4:ak .i64 (((enc (x*2 ^ up)).length:Int)-((k+1:Nat):Int)+1)=z:=by rw[wrap_i64 (by omega),hze]
  have w5:ak .i64 ((((enc (x*2 ^ up)).length-k:Nat):Int)-1)=(((enc (x*2 ^ up)).length-k:Nat):Int)-1:=wrap_i64 (by omega);have hne:(((k+1:Nat):Int)==1)=false:=by simp;omega
  clear hu0 g1 g2 hq hr hr2 lr hbe htop hlo XT hqs hqv h1 h2 ht1 hbl;generalize hX:enc (x*2 ^ up)=eX at*;generalize hY:enc (y*2 ^ up)=eY at*;refine Ca.body (o:=.ret) (st1:=(st0 [.u,.u,.d (LD (enc (x / y))),.d (LD (enc (x % y))),.u,.u,.u,.u,.u,.u,.u,.u,.u,.u,.u,.u] [.fM 0 1 (LL qs)])) rfl (k226:E0.fn _=_) rfl ?_ (by intro id h;cases h) ?_
  ·show Ex E0 (.seq xh.body.l (.seq xh.body.r.l (.seq xh.body.r.r.l (.seq xh.body.r.r.r.l (.seq xh.body.r.r.r.r.l (.seq (.seq xh.body.r.r.r.r.r.l.l (.block 0 (.loop xZ))) xh.body.r.r.r.r.r.r)))))) _ _;refine Ex.seq (st1:=(st0 [.d (LD (enc x)),.d (LD (enc y)),.u,.u,.u,.u,.u,.u,.u,.u,.u,.u,.u,.u,.u,.u] [])) (Ex.of (n:=40) ?_)
    (Ex.seq (st1:=(st0 [.d (LD (enc x)),.d (LD (enc y)),.u,.u,.u,.u,.u,.u,.u,.u,.u,.u,.u,.d (.v (.bool false)),.u,.u] [])) (Ex.of (n:=40) ?_)
    (Ex.seq (st1:=(st0 [.d (LD (enc x)),.d (LD (enc y)),.u,.u,.u,.u,.d (.v (.int .i64 up)),.u,.u,.u,.u,.u,.u,.u,.u,.u] [])) (Ex.of (n:=200) ?_)
    (Ex.seq (st1:=(st0 [.u,.u,.u,.u,.u,.u,.d (.v (.int .i64 up)),.d (LD eX),.d (LD eY),.u,.u,.u,.u,.u,.u,.u] [])) (Ex.of (n:=N+40) ?_)
    (Ex.seq (st1:=(st0 [.u,.u,.ls (.loc 0) 0 1 0 (eX.length-k),.u,.u,.u,.d (.v (.int .i64 up)),.d (LD eX),.d (LD eY),.u,.u,.u,.u,.u,.u,.u] [.row 0 1 (LL (jf (eX.length-k) []))])) (Ex.of (n:=40) ?_)
    (Ex.seq (Ex.seq (Ex.of (n:=40) ?_) hloop.block) (Ex.of (n:=N+40) ?_))))))
   ·simp -implicitDefEqProofs[f226]
   ·simp only[LD];generalize LL (enc x)=xs,LL (enc y)=ys,k+1=m at*;simp -implicitDefEqProofs[f226,hlY,hne]
   ·simp only[LD]at DF ⊢;generalize LL (enc x)=xs,LL (enc y)=ys,k+1=m at*;generalize 32*m=m32,32*k+bl=kb at*;simp -implicitDefEqProofs[f226,hlY,DF,w1,w2]
   ·simp only[LD]at hlx hly ⊢;generalize LL (enc x)=xs,LL (enc y)=ys,LL eX=Xs,LL eY=Ys at*;simp -implicitDefEqProofs[f226,hlx,hly]
   ·have hm1:((eX.length-k:Nat):Int)*4<=1099511627776:=by omega
    have hm2:((eX.length-k:Nat):Int)<=1099511627776:=by omega
    rw[hz];generalize eX.length-k=L at*;generalize eX.length=lX at*;simp only[LD];generalize LL eX=Xs,LL eY=Ys,k+1=m at*;rcases hzc with ⟨a,b⟩|⟨a,b⟩
    ·rw[b]at w4 a;replace a:0<L:=by omega
     simp -implicitDefEqProofs[f226,hlU,hlV,w3,w4,a,hm1,hm2,most]
    ·subst b;simp -implicitDefEqProofs[f226,hlU,hlV,w3,w4,a,most]
   ·unfold y_;simp only[hX,hY,LD];have hlR:(LL (jf (eX.length-k) [])).length=eX.length-k:=by rw[o7];simp
    generalize LL (jf (eX.length-k) [])=es at*;generalize eX.length-k=L,LL eX=Xs,LL eY=Ys at*;simp -implicitDefEqProofs[f226,w5]
   ·unfold y_;simp only[LD]at hc DI ⊢;clear hloop;generalize LL (enc (x % y*2 ^ up))=rs,LL (enc (y*2 ^ up))=Ys,LL (enc (x / y))=as1 at*;generalize LL (enc (x % y))=as2,eX.length-k=L at*;have htk:(LL qs).take L=LL qs:=List.take_of_length_le (by omega);generalize LL qs=Qs at*;simp -implicitDefEqProofs[ae.view,f226,hlQ,htk,hc,DI]
  ·simp -implicitDefEqProofs[f226,LD,mF]
theorem Iq (a b:Nat)(la:(enc a).length<=1000000)(lb:(enc b).length<=1000000)(hb0:0<b):Ex E0 gcB (Bo a b .u) (.norm,Bo b (a % b) .u):=by
 obtain⟨n0,ho⟩:=(DD a b hb0 la lb).get;refine Ex.of (n:=n0+60) ?_;unfold Bo;have hlb:∃ m,(LL (enc b)).length=m+1:=by
  have:0<(enc b).length:=List.length_pos_iff.2 (by intro e;rw[dD]at e;omega);exact⟨(enc b).length-1,by simp[LL];omega⟩
 obtain⟨m,hlb⟩:=hlb;have hm:0<(m:Int)+1:=by omega
 simp only[LD]at ho ⊢;generalize LL (enc a)=as',LL (enc b)=bs,LL (enc (a / b))=qs,LL (enc (a % b))=rs at*;simp -implicitDefEqProofs[gcB,f183,hlb,ho,hm]
theorem LF (a b:Nat)(la:(enc a).length<=1000000)(lb:(enc b).length<=1000000):Ex E0 (.loop gcB) (Bo a b .u) (.exit 0,Bo (Nat.gcd a b) 0 (.d (.v (.bool false)))):=by
 induction b using Nat.strongRecOn generalizing a with
 | ind b ih =>
  rcases Nat.eq_zero_or_pos b with rfl|h0
  ·rw[Nat.gcd_zero_right];exact Ex.out (TZ a) (by simp)
  ·have hm:=Nat.mod_lt a h0;have:=ih (a % b) hm b lb (Nat.le_trans (bC (by omega)) lb);have hg:Nat.gcd a b=Nat.gcd b (a % b):=by rw[Nat.gcd_comm a b,Nat.gcd_rec b a,Nat.gcd_comm]
   rw[hg];exact Ex.next (Iq a b la lb h0) this
theorem O4 (a b:Nat)(la:(enc a).length<=1000000)(lb:(enc b).length<=1000000):Ca E0 ad5 [.d (LD (enc a)),.d (LD (enc b))] (.d (LD (enc (Nat.gcd a b))),none):=by
 have hl:=LF a b la lb;generalize Nat.gcd a b=g at*;refine Ca.body (o:=.ret) (st1:=(st0 [.u,.u,.d (LD (enc g)),.u,.u] [])) rfl (k183:E0.fn _=_) rfl ?_ (by intro id h;cases h) ?_
 ·show Ex E0 (.seq XV.body.l (.seq (.block 0 (.loop gcB)) XV.body.r.r)) _ _;refine Ex.seq (st1:=Bo a b .u) (Ex.of (n:=40) ?_) (Ex.seq hl.block (Ex.of (n:=40) ?_))
  ·unfold Bo;simp -implicitDefEqProofs[f183]
  ·unfold Bo;simp -implicitDefEqProofs[f183]
 ·simp -implicitDefEqProofs[f183,LD]
abbrev ad8:Nat:=182
abbrev af_:ai:=f182
abbrev X7:Nat:=109
abbrev ad9:ai:=f109
theorem DJ (n:Nat):CL E0 (n+20) ad8 [] []=some (.d (.s 1 [.v (.int .u32 1)]),none):=by
 rw[aA rfl (k182:E0.fn _=_) rfl];simp -implicitDefEqProofs[f182]
theorem ze:LD (enc 1)=.s 1 [.v (.int .u32 1)]:=by rw[mM (by omega) (by omega)];rfl
def r_ (l:List Nat):Bool:=decide (trim l=l)
theorem J_ (n:Nat):r_ (enc n)=true:=by simp[r_,Fz]
theorem lZ {l:List Nat}(hl:bK l):r_ l=true↔l=enc (val l):=by
 unfold r_;rw[decide_eq_true_iff,bS hl];exact⟨fun h=>h.symm,fun h=>h.symm⟩
theorem xm (m:Nat)(l:List Nat)(hl:l.length<=1000000000):CL E0 (m+30) TQ [.d (LD l)] []=some (.d (.v (.bool (r_ l))),none):=by
 rw[aA rfl (k180:E0.fn _=_) rfl];rcases List.eq_nil_or_concat l with h|⟨b,x,h⟩
 ·rw[h];have:r_ []=true:=by simp[r_,trim]
  rw[this];simp -implicitDefEqProofs[f180,LD,LL]
 ·rw[List.concat_eq_append]at h;rw[h]at hl ⊢;have hlen:(LL (b++[x])).length=b.length+1:=by simp[LL]
  have hget:(LL (b++[x]))[b.length]?=some (.v (.int .u32 (x:Int))):=by simp[LL]
  have hb:(((b.length:Int)+1)==0)=false:=by simp;omega
  have hw:ak .i64 (b.length:Int)=(b.length:Int):=wrap_i64 (by simp at hl;omega);have hok:r_ (b++[x])=((x:Int) != 0):=by
   unfold r_
   by_cases hx:x=0
   ·subst hx;rw[qK];have h2:=o9 b;have h3:¬ trim b=b++[0]:=by
     intro e;rw[e]at h2;simp only[List.length_append,List.length_cons,List.length_nil]at h2;omega
    simp[h3]
   ·rw[qJ b x hx];simp[hx]
  rw[hok];simp only[LD];generalize LL (b++[x])=es at*;have yT:=idx hget;simp -implicitDefEqProofs[f180,hlen,hget,yT,hb,hw]
def raw (s:Bool)(a b:List Nat):D:=.a [.v (.bool s),LD a,LD b]
def df (s:Bool)(a b:List Nat):Bool :=
 r_ a&&r_ b&&(if a=[] then !s&&decide (b=[]) else decide (b=[])||(decide (val b≠1)&&decide (Nat.gcd (val a) (val b)=1)))
theorem Uf {a:Nat}:(dx a 1 != 0)=decide (a≠1):=by
 unfold dx
 by_cases h:a<1
 ·rw[if_pos h];simp;omega
 ·rw[if_neg h]
  by_cases h2:a=1
  ·simp[h2]
  ·simp[h2]
theorem Ug {a:Nat}:(dx a 1==0)=decide (a=1):=by
 unfold dx
 by_cases h:a<1
 ·rw[if_pos h];simp;omega
 ·rw[if_neg h]
  by_cases h2:a=1
  ·simp[h2]
  ·simp[h2]
theorem vW (s:Bool)(a b:List Nat)(la:a.length<=1000000)(lb:b.length<=1000000)(ha:bK a)(hb:bK b):Ca E0 X7 [.d (raw s a b)] (.d (.v (.bool (df s a b))),none):=by
 have p1:=fun m=>xm m a (by omega)
 have p2:=fun m=>xm m b (by omega)
 have o1:=DJ;unfold df
 by_cases hoa:r_ a=true
 ·by_cases EW:r_ b=true
  ·rw[hoa]at p1 ⊢;rw[EW]at p2 ⊢
   by_cases hna:a=[]
   ·subst hna;simp only[raw,LD,LL,List.map_nil]at p1 p2 ⊢
    by_cases hnb:b=[]
    ·subst hnb;refine Ca.bO (n:=60) ?_;rw[aA rfl (k109:E0.fn _=_) rfl];simp only[List.map_nil]at p2 ⊢;cases s<;>simp -implicitDefEqProofs[f109,p1]
    ·have hlen:((List.map (fun(x:Nat)=>D.v (Value.int IntKind.u32 (x:Int))) b).length==0)=false:=by simp[hnb]
     refine Ca.bO (n:=60) ?_;rw[aA rfl (k109:E0.fn _=_) rfl];have BZ:¬ (List.map (fun(x:Nat)=>D.v (Value.int IntKind.u32 (x:Int))) b)=[]:=by simp[hnb]
     generalize List.map (fun(x:Nat)=>D.v (Value.int IntKind.u32 (x:Int))) b=bs at*;cases s<;>simp -implicitDefEqProofs[f109,p1,p2,hnb,hlen,BZ]
   ·have hla:¬ (LL a)=[]:=by simp[LL,hna]
    by_cases hnb:b=[]
    ·subst hnb;refine Ca.bO (n:=60) ?_;rw[aA rfl (k109:E0.fn _=_) rfl];simp only[raw,LD]at p1 p2 ⊢;generalize LL a=as' at*;simp only[LL,List.map_nil]at p2 ⊢;simp -implicitDefEqProofs[f109,p1,p2,hna,hla]
    ·have hlb:¬ (LL b)=[]:=by simp[LL,hnb]
     have ea:=(lZ ha).1 hoa;have eb:=(lZ hb).1 EW;have l1:=fo (n:=1) (k:=1) (by omega);have hg:(enc (Nat.gcd (val a) (val b))).length<=1000000:=by
      refine Nat.le_trans (bC (m:=Nat.gcd (val a) (val b)) (n:=val b) (Nat.le_of_dvd ?_ (Nat.gcd_dvd_right _ _))) (by rw[<-eb];omega);rcases Nat.eq_zero_or_pos (val b) with h|h
      ·rw[h]at eb;rw[bW]at eb;exact absurd eb hnb
      ·exact h
     obtain⟨Kq,_,c1,c2,c3⟩:=((vS b (enc 1) (by omega) (by omega) hb (aP _)).j ((vS (enc (Nat.gcd (val a) (val b))) (enc 1) (by omega) (by omega) (aP _) (aP _)).j ((O4 (val a) (val b) (by rw[<-ea];omega) (by rw[<-eb];omega)).any))).at 0;generalize Kq=N at*;simp only[aS]at c1 c2;rw[<-ea,<-eb]at c3;rw[ze]at c1 c2;have e1:=Uf (a:=val b);have e2:=Ug (a:=Nat.gcd (val a) (val b));refine Ca.bO (n:=N+60) ?_;rw[aA rfl (k109:E0.fn _=_) rfl];rw[if_neg hna];simp only[hnb,decide_false,Bool.false_or,Bool.true_and];rw[<-e1,<-e2];clear e1 e2 ea eb;generalize dx (val b) 1=k1,dx (Nat.gcd (val a) (val b)) 1=k2 at*;simp only[raw,LD]at p1 p2 c1 c2 c3 ⊢;generalize LL a=as',LL b=bs,LL (enc (Nat.gcd (val a) (val b)))=gs at*;cases hk1:(k1 != 0)
     ·simp -implicitDefEqProofs[f109,p1,p2,hla,hlb,o1,c1,c2,c3,hk1]
     ·simp -implicitDefEqProofs[f109,p1,p2,hla,hlb,o1,c1,c2,c3,hk1]
  ·simp only[Bool.not_eq_true]at EW;rw[hoa]at p1 ⊢;rw[EW]at p2 ⊢;refine Ca.bO (n:=60) ?_;rw[aA rfl (k109:E0.fn _=_) rfl];simp only[raw,LD]at p1 p2 ⊢;generalize LL a=as',LL b=bs at*;simp -implicitDefEqProofs[f109,p1,p2]
 ·simp only[Bool.not_eq_true]at hoa;rw[hoa]at p1 ⊢;refine Ca.bO (n:=60) ?_;rw[aA rfl (k109:E0.fn _=_) rfl];simp only[raw,LD]at p1 p2 ⊢;generalize LL a=as',LL b=bs at*;simp -implicitDefEqProofs[f109,p1,p2]
abbrev nOf:Nat:=185
abbrev fOf:ai:=f185
abbrev X8:Nat:=230
abbrev ad_:ai:=f230
abbrev ad':Nat:=187
abbrev aga:ai:=f187
def sz (n:Nat):Nat:=(enc n).length
theorem B_ {n k:Nat}(h:n<4294967296 ^ k):sz n<=k:=fo h
theorem FB (n:Nat):n<4294967296 ^ sz n:=vV n
theorem nu {m n:Nat}(h:m<=n):sz m<=sz n:=bC h
theorem gq (a b:Nat):sz (a*b)<=sz a+sz b:=by
 refine B_ ?_;rw[Nat.pow_add];have h1:=FB a;have h2:=FB b;exact Nat.lt_of_le_of_lt (Nat.mul_le_mul_left a (Nat.le_of_lt h2)) (Nat.mul_lt_mul_of_pos_right h1 (Nat.pow_pos (by omega)))
theorem Ir (a b:Nat):sz (a+b)<=max (sz a) (sz b)+1:=by
 refine B_ ?_;rw[Nat.pow_succ];have h1:=Nat.lt_of_lt_of_le (FB a) (Nat.pow_le_pow_right (n:=4294967296) (by omega) (Nat.le_max_left (sz a) (sz b)));have h2:=Nat.lt_of_lt_of_le (FB b) (Nat.pow_le_pow_right (n:=4294967296) (by omega) (Nat.le_max_right (sz a) (sz b)));omega
theorem Iu:sz 1=1:=by unfold sz;rw[mM (by omega) (by omega)];rfl
def fq (s:Bool)(n d:Nat):D:=.a [.v (.bool s),LD (enc n),LD (enc d)]
def qs (x:Rat):Bool:=decide (x.num<0)
def qn (x:Rat):List Nat:=enc x.num.natAbs
def qd (x:Rat):List Nat:=if x.den=1 then [] else enc x.den
def qD (x:Rat):D:=raw (qs x) (qn x) (qd x)
def fqR (x:Rat):D:=fq (qs x) x.num.natAbs x.den
def qz (x:Rat):Nat:=max (sz x.num.natAbs) (sz x.den)
theorem DK (x:Rat):bK (qn x):=aP _
theorem DL (x:Rat):bK (qd x):=by
 unfold qd;split
 ·intro y hy;cases hy
 ·exact aP _
theorem O5 (x:Rat):(qn x).length<=qz x:=Nat.le_max_left _ _
theorem O6 (x:Rat):(qd x).length<=qz x:=by
 unfold qd;split
 ·simp
 ·exact Nat.le_max_right _ _
theorem qL (x:Rat):df (qs x) (qn x) (qd x)=true:=by
 have hd:=x.den_nz;have hr:Nat.gcd x.num.natAbs x.den=1:=x.reduced;have ok2:r_ (qd x)=true:=by
  unfold qd;split
  ·simp[r_,trim]
  ·exact J_ _
 unfold df;rw[show r_ (qn x)=true from J_ _,ok2];simp only[Bool.true_and]
 by_cases h0:qn x=[]
 ·rw[if_pos h0];have hz:x.num.natAbs=0:=dD.1 h0;have hz2:x.num=0:=Int.natAbs_eq_zero.1 hz;rw[hz,Nat.gcd_zero_left]at hr;simp[qs,qd,hz2,hr]
 ·rw[if_neg h0];unfold qd;split
  ·simp
  ·rename_i h1;have e1:val (qn x)=x.num.natAbs:=aS _;simp[aS,e1,hr,h1]
theorem zf (x:Rat)(hx:qz x<=1000000):Ca E0 nOf [.d (qD x)] (.d (fqR x),none):=by
 obtain⟨N,hv⟩:=(vW (qs x) (qn x) (qd x) (Nat.le_trans (O5 x) hx) (Nat.le_trans (O6 x) hx) (DK x) (DL x)).get;rw[qL]at hv;have o1:=DJ;have hn:enc x.num.natAbs=qn x:=rfl;refine Ca.bO (n:=N+60) ?_;rw[aA rfl (k185:E0.fn _=_) rfl];simp only[qD,fqR,fq,raw,hn];simp only[raw]at hv;generalize qs x=s at*
 by_cases hd:x.den=1
 ·have e:qd x=[]:=if_pos hd;rw[e]at hv ⊢;rw[hd,ze];simp only[LD]at hv ⊢;generalize LL (qn x)=ns at*;simp only[LL,List.map_nil]at hv ⊢;simp -implicitDefEqProofs[f185,hv,o1]
 ·have e:qd x=enc x.den:=if_neg hd;have BZ:¬ LL (enc x.den)=[]:=by
   have:=x.den_nz;simp[LL,dD,this]
  rw[e]at hv ⊢;simp only[LD]at hv ⊢;generalize LL (qn x)=ns,LL (enc x.den)=ds at*;simp -implicitDefEqProofs[f185,hv,BZ]
theorem zg (m:Nat)(l:List Nat)(h0:l≠[])(hl:l.length<=100000000):CL E0 (m+30) X8 [.d (LD l)] []=some (.d (LD l),none):=by
 rw[aA rfl (k230:E0.fn _=_) rfl];obtain⟨x,r,rfl⟩:∃ x r,l=x::r:=by cases l with|nil=>exact absurd rfl h0|cons x r=>exact⟨x,r,rfl⟩
 simp only[LD,LL,List.map_cons];have hlen:(List.map (fun(x:Nat)=>D.v (Value.int IntKind.u32 (x:Int))) r).length<=100000000:=by simp at hl ⊢;omega
 have hone:∀ y ∈ List.map (fun(x:Nat)=>D.v (Value.int IntKind.u32 (x:Int))) r,D.one y=true:=by
  intro y hy;obtain⟨z,_,rfl⟩:=List.mem_map.1 hy;rfl
 generalize List.map (fun(x:Nat)=>D.v (Value.int IntKind.u32 (x:Int))) r=es at*;have hm:(es.length+1)*4<=1099511627776:=by omega
 have hm2:(es.length+1)<=1099511627776:=by omega
 simp -implicitDefEqProofs[f230,ae.view,most,hm,hm2]
def rD (s:Bool)(n:Nat):Int:=if s then -(n:Int) else n
def vX (s:Bool)(n d:Nat):Rat:=mkRat (rD s n) d
theorem su (s:Bool)(n:Nat):(rD s n).natAbs=n:=by cases s<;>simp[rD]
theorem qM {s:Bool}{n d:Nat}(hd:0<d):(vX s n d).den=d / Nat.gcd n d:=by
 unfold vX;rw[Rat.den_mkRat,if_neg (by omega),su,Nat.gcd_comm]
theorem Ka {s:Bool}{n d:Nat}(hd:0<d):(vX s n d).num=rD s (n / Nat.gcd n d):=by
 unfold vX;rw[Rat.num_mkRat,if_neg (by omega),su,Nat.gcd_comm];have hg:Nat.gcd n d ∣ n:=Nat.gcd_dvd_left n d;cases s
 ·simp[rD]
 ·simp only[rD,if_true];rw[Int.neg_ediv_of_dvd (by exact_mod_cast hg)];simp
theorem qN {s:Bool}{n d:Nat}(hd:0<d):(vX s n d).num.natAbs=n / Nat.gcd n d:=by rw[Ka hd,su]
theorem zh {s:Bool}{n d:Nat}(hd:0<d):qs (vX s n d)=if n=0 then false else s:=by
 have hg:0<Nat.gcd n d:=Nat.gcd_pos_of_pos_right n hd;unfold qs;rw[Ka hd]
 by_cases h:n=0
 ·subst h;cases s<;>simp[rD]
 ·rw[if_neg h];have:=Nat.div_pos (Nat.le_of_dvd (by omega) (Nat.gcd_dvd_left n d)) hg;cases s
  ·simp[rD];omega
  ·simp only[rD,if_true];simp;omega
theorem Iw {s:Bool}{n d:Nat}(hd:0<d):qz (vX s n d)<=max (sz n) (sz d):=by
 unfold qz;rw[qN hd,qM hd];have h1:=nu (Nat.div_le_self n (Nat.gcd n d));have h2:=nu (Nat.div_le_self d (Nat.gcd n d));omega
theorem DN {s:Bool}{n d:Nat}(ln:sz n<=1000000)(ld:sz d<=1000000)(hd0:0<d):Ca E0 ad' [.d (fq s n d)] (.d (qD (vX s n d)),none):=by
 have o1:=DJ;unfold qD qn qd;rw[zh hd0,qN hd0,qM hd0];unfold sz at ln ld;rcases Nat.eq_zero_or_pos n with rfl|hn0
 ·have e2:d / Nat.gcd 0 d=1:=by rw[Nat.gcd_zero_left];exact Nat.div_self hd0
  rw[e2];refine Ca.bO (n:=60) ?_;rw[aA rfl (k187:E0.fn _=_) rfl];simp only[fq,raw,Nat.zero_div,bW,if_true,LD,LL,List.map_nil];generalize List.map (fun(x:Nat)=>D.v (Value.int IntKind.u32 (x:Int))) (enc d)=ds at*;simp -implicitDefEqProofs[f187]
 ·rw[if_neg (by omega)];have hg:0<Nat.gcd n d:=Nat.gcd_pos_of_pos_right n hd0;have lg:(enc (Nat.gcd n d)).length<=1000000:=Nat.le_trans (bC (Nat.le_of_dvd hd0 (Nat.gcd_dvd_right n d))) ld;obtain⟨n1,c1⟩:=(O4 n d ln ld).any;have l1:=fo (n:=1) (k:=1) (by omega);obtain⟨n2,c2⟩:=(vS (enc (Nat.gcd n d)) (enc 1) (by omega) (by omega) (aP _) (aP _)).any;obtain⟨n3,c3⟩:=(DD n (Nat.gcd n d) hg ln lg).any;obtain⟨n4,c4⟩:=(DD d (Nat.gcd n d) hg ld lg).any;have ldl:(enc (d / Nat.gcd n d)).length<=1000000:=Nat.le_trans (bC (Nat.div_le_self _ _)) ld;obtain⟨n5,c5⟩:=(vS (enc (d / Nat.gcd n d)) (enc 1) (by omega) (by omega) (aP _) (aP _)).any;replace c1:=c1 (n1+n2+n3+n4+n5) (by omega);replace c2:=c2 (n1+n2+n3+n4+n5) (by omega);replace c3:=c3 (n1+n2+n3+n4+n5) (by omega);replace c4:=c4 (n1+n2+n3+n4+n5) (by omega);replace c5:=c5 (n1+n2+n3+n4+n5) (by omega);generalize n1+n2+n3+n4+n5=N at*;simp only[aS]at c2 c5;rw[ze]at c2 c5;have k1:=fun m=>zg m (enc n) (by rw[Ne,dD];omega) (by omega)
  have k2:=fun m=>zg m (enc d) (by rw[Ne,dD];omega) (by omega)
  have hln:¬ LL (enc n)=[]:=by
   have:¬ n=0:=by omega
   simp[LL,dD,this]
  refine Ca.bO (n:=N+80) ?_;rw[aA rfl (k187:E0.fn _=_) rfl]
  by_cases h1:Nat.gcd n d=1
  ·have e1:dx 1 1=0:=by simp[dx]
   rw[h1]at c1 c2 c5 ⊢;rw[Nat.div_one]at c5;rw[Nat.div_one,Nat.div_one];rw[ze]at c1 c2;rw[e1]at c2
   by_cases hd1:d=1
   ·have e2:dx d 1=0:=by rw[hd1];simp[dx]
    rw[e2]at c5;rw[if_pos hd1];simp only[fq,raw,LD]at c1 c2 c5 k1 k2 ⊢;generalize LL (enc n)=ns,LL (enc d)=ds at*;simp only[LL,List.map_nil];simp -implicitDefEqProofs[f187,o1,c1,c2,c5,k1,k2,hln]
   ·have e2:dx d 1=1:=by unfold dx;rw[if_neg (by omega),if_neg (by omega)]
    rw[e2]at c5;rw[if_neg hd1];simp only[fq,raw,LD]at c1 c2 c5 k1 k2 ⊢;generalize LL (enc n)=ns,LL (enc d)=ds at*;simp -implicitDefEqProofs[f187,o1,c1,c2,c5,k1,k2,hln]
  ·have e1:dx (Nat.gcd n d) 1=1:=by unfold dx;rw[if_neg (by omega),if_neg h1]
   rw[e1]at c2;have hdv:Nat.gcd n d ∣ d:=Nat.gcd_dvd_right n d;generalize Nat.gcd n d=g at*
   by_cases hd1:d / g=1
   ·have e2:dx (d / g) 1=0:=by rw[hd1];simp[dx]
    rw[e2]at c5;rw[if_pos hd1];generalize d / g=dd,n / g=nn,n % g=m1,d % g=m2 at*;simp only[fq,raw,LD]at c1 c2 c3 c4 c5 k1 k2 ⊢;generalize LL (enc n)=ns,LL (enc d)=ds,LL (enc g)=gs at*;generalize LL (enc nn)=q1,LL (enc dd)=q2,LL (enc m1)=x1,LL (enc m2)=x2 at*;simp only[LL,List.map_nil];simp -implicitDefEqProofs[f187,o1,c1,c2,c3,c4,c5,k1,k2,hln]
   ·have e2:dx (d / g) 1=1:=by
     have:0<d / g:=Nat.div_pos (Nat.le_of_dvd hd0 hdv) hg;unfold dx;rw[if_neg (by omega),if_neg hd1]
    rw[e2]at c5;rw[if_neg hd1];generalize d / g=dd,n / g=nn,n % g=m1,d % g=m2 at*;simp only[fq,raw,LD]at c1 c2 c3 c4 c5 k1 k2 ⊢;generalize LL (enc n)=ns,LL (enc d)=ds,LL (enc g)=gs at*;generalize LL (enc nn)=q1,LL (enc dd)=q2,LL (enc m1)=x1,LL (enc m2)=x2 at*;simp -implicitDefEqProofs[f187,o1,c1,c2,c3,c4,c5,k1,k2,hln]
abbrev X9:Nat:=186
abbrev aea:ai:=f186
abbrev abe:Nat:=232
abbrev afu:ai:=f232
abbrev aeb:Nat:=114
abbrev agc:ai:=f114
abbrev aec:Nat:=191
abbrev agd:ai:=f191
theorem vY {a b:Nat}(ha:sz a<=1000000)(hb:sz b<=1000000):Ca E0 OP [.d (LD (enc a)),.d (LD (enc b))] (.d (LD (enc (a*b))),none):=by
 unfold sz at ha hb;have:=Fq (enc a) (enc b) (by omega) (by omega) (aP _) (aP _);simpa only[aS] using this
theorem O7 {a b:Nat}(ha:sz a<=1000000)(hb:sz b<=1000000):Ca E0 WH [.d (LD (enc a)),.d (LD (enc b))] (.d (LD (enc (a+b))),none):=by
 unfold sz at ha hb;have:=TW (enc a) (enc b) (by omega) (by omega) (aP _) (aP _);simpa only[aS] using this
theorem Cb {a b:Nat}(ha:sz a<=1000000)(hb:b<=a):Ca E0 OI [.d (LD (enc a)),.d (LD (enc b))] (.d (LD (enc (a-b))),none):=by
 unfold sz at ha;have:=yV (enc a) (enc b) (by omega) (bC hb) (aP _) (aP _) (by simpa only[aS] using hb);simpa only[aS] using this
theorem Uh {a b:Nat}(ha:sz a<=1000000)(hb:sz b<=1000000):Ca E0 XP [.d (LD (enc a)),.d (LD (enc b))] (.d (.v (.int .i64 (dx a b))),none):=by
 unfold sz at ha hb;have:=vS (enc a) (enc b) (by omega) (by omega) (aP _) (aP _);simpa only[aS] using this
theorem Ui (s:Bool)(n d:Nat):Ca E0 abe [.d (fq s n d)] (.d (fq (!s) n d),none):=by
 refine Ca.bO (n:=60) ?_;rw[aA rfl (k232:E0.fn _=_) rfl];simp only[fq,LD];generalize LL (enc n)=ns;generalize LL (enc d)=ds;simp -implicitDefEqProofs[f232]
def ny (s1:Bool)(a:Nat)(s2:Bool)(b:Nat):Bool:=if s1=s2 then s1 else if b<=a then s1 else s2
def mG (s1:Bool)(a:Nat)(s2:Bool)(b:Nat):Nat:=if s1=s2 then a+b else if b<=a then a-b else b-a
theorem uo {s1 s2:Bool}{a b:Nat}:sz (mG s1 a s2 b)<=max (sz a) (sz b)+1:=by
 unfold mG;split
 ·exact Ir a b
 ·split
  ·have:=nu (Nat.sub_le a b);omega
  ·have:=nu (Nat.sub_le b a);omega
theorem Kb (s1 s2:Bool)(a b:Nat):rD (ny s1 a s2 b) (mG s1 a s2 b)=rD s1 a+rD s2 b:=by
 unfold ny mG
 by_cases h:s1=s2
 ·subst h;simp only[if_true];cases s1<;>simp[rD]<;>omega
 ·rw[if_neg h,if_neg h]
  by_cases hab:b<=a
  ·rw[if_pos hab,if_pos hab];cases s1<;>cases s2<;>simp_all[rD]<;>omega
  ·rw[if_neg hab,if_neg hab];cases s1<;>cases s2<;>simp_all[rD]<;>omega
theorem FC (s1 s2:Bool){n1 d1 n2 d2:Nat}(h1:sz n1<=200000)(h2:sz d1<=200000)(h3:sz n2<=200000)(h4:sz d2<=200000) :
  Ca E0 X9 [.d (fq s1 n1 d1),.d (fq s2 n2 d2)] (.d (fq (ny s1 (n1*d2) s2 (n2*d1)) (mG s1 (n1*d2) s2 (n2*d1)) (d1*d2)),none):=by
 have b1:=gq n1 d2;have b2:=gq n2 d1;obtain⟨k1,t1⟩:=(vY (a:=n1) (b:=d2) (by omega) (by omega)).any;obtain⟨k2,t2⟩:=(vY (a:=n2) (b:=d1) (by omega) (by omega)).any;obtain⟨k3,t3⟩:=(vY (a:=d1) (b:=d2) (by omega) (by omega)).any;generalize n1*d2=a,n2*d1=b,d1*d2=d at*;obtain⟨k4,t4⟩:=(O7 (a:=a) (b:=b) (by omega) (by omega)).any;obtain⟨k5,t5⟩:=(Uh (a:=a) (b:=b) (by omega) (by omega)).any
 by_cases hs:s1=s2
 ·subst hs;replace t1:=t1 (k1+k2+k3+k4) (by omega);replace t2:=t2 (k1+k2+k3+k4) (by omega);replace t3:=t3 (k1+k2+k3+k4) (by omega);replace t4:=t4 (k1+k2+k3+k4) (by omega);generalize k1+k2+k3+k4=N at*;refine Ca.bO (n:=N+80) ?_;rw[aA rfl (k186:E0.fn _=_) rfl];simp only[fq,ny,mG,if_true,LD]at*;generalize LL (enc n1)=x1,LL (enc n2)=x2,LL (enc d1)=x3,LL (enc d2)=x4,LL (enc (a+b))=x5,LL (enc a)=x6,LL (enc b)=x7 at*;generalize LL (enc d)=x8 at*;simp -implicitDefEqProofs[f186,t1,t2,t3,t4]
 ·have hbq:(s1==s2)=false:=by simpa using hs
  by_cases hab:b<=a
  ·obtain⟨k6,t6⟩:=(Cb (a:=a) (b:=b) (by omega) hab).any;replace t1:=t1 (k1+k2+k3+k5+k6) (by omega);replace t2:=t2 (k1+k2+k3+k5+k6) (by omega);replace t3:=t3 (k1+k2+k3+k5+k6) (by omega);replace t5:=t5 (k1+k2+k3+k5+k6) (by omega);replace t6:=t6 (k1+k2+k3+k5+k6) (by omega);generalize k1+k2+k3+k5+k6=N at*;have hc:(0:Int)<=dx a b:=by unfold dx;rw[if_neg (by omega)];split<;>omega
   refine Ca.bO (n:=N+80) ?_;rw[aA rfl (k186:E0.fn _=_) rfl];simp only[fq,ny,mG,if_neg hs,if_pos hab,LD]at*;generalize dx a b=cc,LL (enc n1)=x1,LL (enc n2)=x2,LL (enc d1)=x3,LL (enc d2)=x4,LL (enc (a-b))=x5,LL (enc a)=x6,LL (enc b)=x7 at*;generalize LL (enc d)=x8 at*;simp -implicitDefEqProofs[f186,t1,t2,t3,t5,t6,hbq,hc]
  ·obtain⟨k6,t6⟩:=(Cb (a:=b) (b:=a) (by omega) (by omega)).any;replace t1:=t1 (k1+k2+k3+k5+k6) (by omega);replace t2:=t2 (k1+k2+k3+k5+k6) (by omega);replace t3:=t3 (k1+k2+k3+k5+k6) (by omega);replace t5:=t5 (k1+k2+k3+k5+k6) (by omega);replace t6:=t6 (k1+k2+k3+k5+k6) (by omega);generalize k1+k2+k3+k5+k6=N at*;have hc:dx a b=-1:=by unfold dx;rw[if_pos (by omega)]
   rw[hc]at t5;refine Ca.bO (n:=N+80) ?_;rw[aA rfl (k186:E0.fn _=_) rfl];simp only[fq,ny,mG,if_neg hs,if_neg hab,LD]at*;generalize LL (enc n1)=x1,LL (enc n2)=x2,LL (enc d1)=x3,LL (enc d2)=x4,LL (enc (b-a))=x5,LL (enc a)=x6,LL (enc b)=x7 at*;generalize LL (enc d)=x8 at*;simp -implicitDefEqProofs[f186,t1,t2,t3,t5,t6,hbq]
theorem qO (x:Rat):rD (qs x) x.num.natAbs=x.num:=by
 unfold rD qs
 by_cases h:x.num<0
 ·rw[if_pos (by simpa using h)];omega
 ·rw[if_neg (by simpa using h)];omega
theorem Uj (s1 s2:Bool)(a b:Nat):rD (s1 != s2) (a*b)=rD s1 a*rD s2 b:=by
 cases s1<;>cases s2<;>simp[rD,Int.neg_mul,Int.mul_neg]
theorem den_pos (x:Rat):0<x.den:=Nat.pos_of_ne_zero x.den_nz
theorem DR (x y:Rat):vX (ny (qs x) (x.num.natAbs*y.den) (qs y) (y.num.natAbs*x.den)) (mG (qs x) (x.num.natAbs*y.den) (qs y) (y.num.natAbs*x.den)) (x.den*y.den)=x+y:=by
 unfold vX;rw[Kb,Rat.add_def']
 congr 1
 have h:=fun(s:Bool) (a b:Nat)=>show rD s (a*b)=rD s a*(b:Int) by cases s<;>simp[rD,Int.neg_mul]
 rw[h,h,qO,qO]
theorem Kc (x y:Rat):vX (ny (qs x) (x.num.natAbs*y.den) (!qs y) (y.num.natAbs*x.den)) (mG (qs x) (x.num.natAbs*y.den) (!qs y) (y.num.natAbs*x.den)) (x.den*y.den)=x-y:=by
 unfold vX;rw[Kb,Rat.sub_def']
 congr 1
 have h:=fun(s:Bool) (a b:Nat)=>show rD s (a*b)=rD s a*(b:Int) by cases s<;>simp[rD,Int.neg_mul]
 have h2:=fun(s:Bool) (a:Nat)=>show rD (!s) a=- rD s a by cases s<;>simp[rD]
 rw[h,h,h2,qO,qO,Int.neg_mul];omega
theorem vZ (x y:Rat):qz (x+y)<=qz x+qz y+1:=by
 rw[<-DR];refine Nat.le_trans (Iw (Nat.mul_pos (den_pos x) (den_pos y))) ?_;have h1:=gq x.num.natAbs y.den;have h2:=gq y.num.natAbs x.den;have h3:=gq x.den y.den;have h4:=@uo (qs x) (qs y) (x.num.natAbs*y.den) (y.num.natAbs*x.den);unfold qz;omega
theorem O8 (x y:Rat):qz (x-y)<=qz x+qz y+1:=by
 rw[<-Kc];refine Nat.le_trans (Iw (Nat.mul_pos (den_pos x) (den_pos y))) ?_;have h1:=gq x.num.natAbs y.den;have h2:=gq y.num.natAbs x.den;have h3:=gq x.den y.den;have h4:=@uo (qs x) (!qs y) (x.num.natAbs*y.den) (y.num.natAbs*x.den);unfold qz;omega
theorem DT (x y:Rat)(hx:qz x<=100000)(hy:qz y<=100000):Ca E0 aeb [.d (qD x),.d (qD y)] (.d (qD (x+y)),none):=by
 obtain⟨k1,t1⟩:=(zf x (by omega)).any;obtain⟨k2,t2⟩:=(zf y (by omega)).any;have hx1:sz x.num.natAbs<=100000:=Nat.le_trans (Nat.le_max_left _ _) hx;have hx2:sz x.den<=100000:=Nat.le_trans (Nat.le_max_right _ _) hx;have hy1:sz y.num.natAbs<=100000:=Nat.le_trans (Nat.le_max_left _ _) hy;have hy2:sz y.den<=100000:=Nat.le_trans (Nat.le_max_right _ _) hy;have b1:=gq x.num.natAbs y.den;have b2:=gq y.num.natAbs x.den;have b3:=gq x.den y.den;have b4:=@uo (qs x) (qs y) (x.num.natAbs*y.den) (y.num.natAbs*x.den);obtain⟨k3,t3⟩:=(FC (qs x) (qs y) (n1:=x.num.natAbs) (d1:=x.den) (n2:=y.num.natAbs) (d2:=y.den) (by omega) (by omega) (by omega) (by omega)).any;obtain⟨k5,t5⟩:=(DN (s:=ny (qs x) (x.num.natAbs*y.den) (qs y) (y.num.natAbs*x.den)) (n:=mG (qs x) (x.num.natAbs*y.den) (qs y) (y.num.natAbs*x.den)) (d:=x.den*y.den) (by omega) (by omega) (Nat.mul_pos (den_pos x) (den_pos y))).any;rw[DR]at t5;replace t1:=t1 (k1+k2+k3+k5) (by omega);replace t2:=t2 (k1+k2+k3+k5) (by omega);replace t3:=t3 (k1+k2+k3+k5) (by omega);replace t5:=t5 (k1+k2+k3+k5) (by omega);generalize k1+k2+k3+k5=N,mG (qs x) (x.num.natAbs*y.den) (qs y) (y.num.natAbs*x.den)=n,ny (qs x) (x.num.natAbs*y.den) (qs y) (y.num.natAbs*x.den)=ss,x.den*y.den=d at*;refine Ca.bO (n:=N+80) ?_;rw[aA rfl (k114:E0.fn _=_) rfl];simp only[fqR,fq,qD,raw,LD]at*;generalize qs x=s1,qs y=s2,LL (enc x.num.natAbs)=x1,LL (enc y.num.natAbs)=x2,LL (enc x.den)=x3,LL (enc y.den)=x4,LL (qn x)=z1,LL (qn y)=z2,LL (qd x)=z3,LL (qd y)=z4,LL (enc n)=x7,LL (enc d)=x8,LL (qn (x+y))=x9,LL (qd (x+y))=y1,qs (x+y)=sg at*;simp -implicitDefEqProofs[f114,t1,t2,t3,t5]
theorem Uk (x y:Rat)(hx:qz x<=100000)(hy:qz y<=100000):Ca E0 aec [.d (qD x),.d (qD y)] (.d (qD (x-y)),none):=by
 obtain⟨k1,t1⟩:=(zf x (by omega)).any;obtain⟨k2,t2⟩:=(zf y (by omega)).any;have hx1:sz x.num.natAbs<=100000:=Nat.le_trans (Nat.le_max_left _ _) hx;have hx2:sz x.den<=100000:=Nat.le_trans (Nat.le_max_right _ _) hx;have hy1:sz y.num.natAbs<=100000:=Nat.le_trans (Nat.le_max_left _ _) hy;have hy2:sz y.den<=100000:=Nat.le_trans (Nat.le_max_right _ _) hy;have b1:=gq x.num.natAbs y.den;have b2:=gq y.num.natAbs x.den;have b3:=gq x.den y.den;have b4:=@uo (qs x) (!qs y) (x.num.natAbs*y.den) (y.num.natAbs*x.den);obtain⟨k3,t3⟩:=(FC (qs x) (!qs y) (n1:=x.num.natAbs) (d1:=x.den) (n2:=y.num.natAbs) (d2:=y.den) (by omega) (by omega) (by omega) (by omega)).any;obtain⟨k4,t4⟩:=(Ui (qs y) y.num.natAbs y.den).any;obtain⟨k5,t5⟩:=(DN (s:=ny (qs x) (x.num.natAbs*y.den) (!qs y) (y.num.natAbs*x.den)) (n:=mG (qs x) (x.num.natAbs*y.den) (!qs y) (y.num.natAbs*x.den)) (d:=x.den*y.den) (by omega) (by omega) (Nat.mul_pos (den_pos x) (den_pos y))).any;rw[Kc]at t5;replace t1:=t1 (k1+k2+k3+k4+k5) (by omega);replace t2:=t2 (k1+k2+k3+k4+k5) (by omega);replace t3:=t3 (k1+k2+k3+k4+k5) (by omega);replace t4:=t4 (k1+k2+k3+k4+k5) (by omega);replace t5:=t5 (k1+k2+k3+k4+k5) (by omega);generalize k1+k2+k3+k4+k5=N,mG (qs x) (x.num.natAbs*y.den) (!qs y) (y.num.natAbs*x.den)=n,ny (qs x) (x.num.natAbs*y.den) (!qs y) (y.num.natAbs*x.den)=ss,x.den*y.den=d at*;refine Ca.bO (n:=N+80) ?_;rw[aA rfl (k191:E0.fn _=_) rfl];simp only[fqR,fq,qD,raw,LD]at*;generalize (!qs y)=s3,qs x=s1 at*;generalize qs y=s2,LL (enc x.num.natAbs)=x1,LL (enc y.num.natAbs)=x2,LL (enc x.den)=x3,LL (enc y.den)=x4,LL (qn x)=z1,LL (qn y)=z2,LL (qd x)=z3,LL (qd y)=z4,LL (enc n)=x7,LL (enc d)=x8,LL (qn (x-y))=x9,LL (qd (x-y))=y1,qs (x-y)=sg at*;simp -implicitDefEqProofs[f191,t1,t2,t3,t4,t5]
theorem uq (x:Rat)(hx:qz x<=1000000):Ca E0 134 [.d (qD x)] (.d (.v (.int .i64 x.num.sign)),none):=by
 obtain⟨N,t⟩:=(zf x hx).get;refine Ca.bO (n:=N+60) ?_;rw[aA rfl (k134:E0.fn _=_) rfl];simp only[fqR,fq,qD,raw,LD]at*;have hq:enc x.num.natAbs=qn x:=rfl;rw[hq]at t;have hs:(LL (qn x)=[]/\x.num.sign=0)\/(LL (qn x)≠[]/\qs x=true/\x.num.sign=-1)\/(LL (qn x)≠[]/\qs x=false/\x.num.sign=1):=by
  have hnil:LL (qn x)=[]↔x.num.natAbs=0:=by simp only[LL,List.map_eq_nil_iff];exact dD
  rw[Ne,hnil];rcases Int.lt_trichotomy x.num 0 with h|h|h
  ·exact .inr (.inl ⟨by omega,decide_eq_true h,Int.sign_eq_neg_one_of_neg h⟩)
  ·exact .inl ⟨by omega,by rw[h];rfl⟩
  ·exact .inr (.inr ⟨by omega,decide_eq_false (by omega),Int.sign_eq_one_of_pos h⟩)
 generalize LL (qn x)=z1,LL (qd x)=z3,LL (enc x.den)=x3,qs x=s at*;rcases hs with ⟨a,b⟩|⟨a,b,c⟩|⟨a,b,c⟩
 ·rw[b];subst a;simp -implicitDefEqProofs[f134,t]
 ·rw[c];subst b;simp -implicitDefEqProofs[f134,t,a]
 ·rw[c];subst b;simp -implicitDefEqProofs[f134,t,a]
theorem xn (x y:Rat)(hx:qz x<=100000)(hy:qz y<=100000):Ca E0 135 [.d (qD x),.d (qD y)] (.d (.v (.int .i64 (x-y).num.sign)),none):=by
 obtain⟨k1,t1⟩:=(Uk x y hx hy).any;have:=O8 x y;obtain⟨k2,t2⟩:=(uq (x-y) (by omega)).any;replace t1:=t1 (k1+k2) (by omega);replace t2:=t2 (k1+k2) (by omega);generalize k1+k2=N at*;refine Ca.bO (n:=N+80) ?_;rw[aA rfl (k135:E0.fn _=_) rfl];generalize (x-y).num.sign=res at*;simp only[qD,raw,LD]at*;generalize LL (qn x)=z1,LL (qn y)=z2,LL (qd x)=z3,LL (qd y)=z4,LL (qn (x-y))=x9,LL (qd (x-y))=y1 at*;simp -implicitDefEqProofs[f135,t1,t2]
theorem FD (x:Rat):vX (qs x) x.num.natAbs x.den=x:=by
 unfold vX;rw[qO,Rat.mkRat_self]
theorem Ul (x y:Rat)(hy:y≠0):vX (qs x != qs y) (x.num.natAbs*y.den) (x.den*y.num.natAbs)=x / y:=by
 have hyn:y.num≠0:=fun h=>hy (Rat.num_eq_zero.1 h)
 have e1:rD (qs x != qs y) (x.num.natAbs*y.den)=x.num*(y.den*y.num.sign):=by
  have h:=Uj (qs x) (qs y) x.num.natAbs y.den;rw[h,qO]
  congr 1
  rcases Int.lt_trichotomy y.num 0 with h|h|h
  ·rw[show qs y=true from decide_eq_true h,Int.sign_eq_neg_one_of_neg h];simp[rD]
  ·exact absurd h hyn
  ·rw[show qs y=false from decide_eq_false (by omega),Int.sign_eq_one_of_pos h];simp[rD]
 have e2:((x.den*y.num.natAbs:Nat):Int)=x.den*(y.num*y.num.sign):=by
  rw[Int.mul_sign_self];simp
 have hs:((y.num.sign:Int):Rat)≠0:=by
  intro e;have:y.num.sign=0:=by exact_mod_cast e
  exact hyn (Int.sign_eq_zero_iff_zero.1 this)
 have hxd:((x.den:Int):Rat)≠0:=by have:=x.den_nz;exact_mod_cast this
 have hyd:((y.den:Int):Rat)≠0:=by have:=y.den_nz;exact_mod_cast this
 have age:((y.num:Int):Rat)≠0:=by exact_mod_cast hyn
 have hx:x=(x.num:Rat) / ((x.den:Int):Rat):=by
  conv=>lhs;rw[<-Rat.mkRat_self x,Rat.mkRat_eq_div]
  rfl
 have hy':y=(y.num:Rat) / ((y.den:Int):Rat):=by
  conv=>lhs;rw[<-Rat.mkRat_self y,Rat.mkRat_eq_div]
  rfl
 unfold vX;rw[Rat.mkRat_eq_div,e1];have e3:(((x.den*y.num.natAbs:Nat)):Rat)=((x.den*(y.num*y.num.sign):Int):Rat):=by rw[<-e2];rfl
 rw[e3];simp only[Rat.intCast_mul]
 conv=>rhs;rw[hx,hy']
 generalize ((y.num.sign:Int):Rat)=a,((x.den:Int):Rat)=b,((y.den:Int):Rat)=c,((y.num:Int):Rat)=d,((x.num:Int):Rat)=e at*;grind
theorem X_ (x:Rat):qz (-x)=qz x:=by simp[qz]
theorem Ke {n:Nat}(h:n<18446744073709551616):trim [n % 4294967296,n / 4294967296]=enc n:=by
 rw[bS (by intro y hy;simp at hy;omega)]
 congr 1
 simp[val];omega
theorem FE (v:Int)(hv:-9223372036854775808<=v/\v<9223372036854775808):Ca E0 227 [.d (.v (.int .i64 v))] (.d (.t [.v (.bool (decide (v<0))),LD (enc v.natAbs)]),none):=by
 obtain⟨n0,hc⟩:=(f_ [v.natAbs % 4294967296,v.natAbs / 4294967296] (by simp)).get;rw[Ke (by omega)]at hc;have hn:v.natAbs<18446744073709551616:=by omega
 refine Ca.bO (n:=n0+60) ?_;rw[aA rfl (k227:E0.fn _=_) rfl];have w2:ak .u32 (v.natAbs:Int)=((v.natAbs % 4294967296:Nat):Int):=by rw[cZ];omega
 have w3:Int.fdiv (v.natAbs:Int) 4294967296=((v.natAbs / 4294967296:Nat):Int):=by
  rw[Int.fdiv_eq_ediv_of_nonneg _ (by omega)];omega
 have w4:ak .u32 ((v.natAbs / 4294967296:Nat):Int)=((v.natAbs / 4294967296:Nat):Int):=wrap_u32 (by omega);have hl:(LL (enc v.natAbs))=LL (enc v.natAbs):=rfl;simp only[LD,LL,List.map_cons,List.map_nil]at hc ⊢;generalize List.map (fun(x:Nat)=>D.v (Value.int IntKind.u32 (x:Int))) (enc v.natAbs)=res at*
 by_cases h:v<0
 ·have w1:ak .u64 v=v+18446744073709551616:=by rw[fe];omega
  have w5:IntKind.wrap .u64 (-(v+18446744073709551616))=(v.natAbs:Int):=by rw[<-bV,fe];omega
  have hd:decide (v<0)=true:=decide_eq_true h;rw[hd];generalize v.natAbs / 4294967296=hi,v.natAbs % 4294967296=lo at*;generalize v.natAbs=va at*;simp -implicitDefEqProofs[IntKind.bits,f227,mF,h,w1,w2,w3,w4,w5,hc]
 ·have w1:ak .u64 v=(v.natAbs:Int):=by rw[fe];omega
  have hd:decide (v<0)=false:=decide_eq_false h;rw[hd];generalize v.natAbs / 4294967296=hi,v.natAbs % 4294967296=lo at*;generalize v.natAbs=va at*;simp -implicitDefEqProofs[IntKind.bits,f227,mF,h,w1,w2,w3,w4,hc]
def FH (a b:Int):Rat:=vX (decide (a<0) != decide (b<0)) a.natAbs b.natAbs
theorem DU {v:Int}(hv:-9223372036854775808<=v/\v<9223372036854775808):sz v.natAbs<=2:=B_ (k:=2) (by
 have:(4294967296:Nat) ^ 2=18446744073709551616:=by rfl
 omega)
theorem Um (a b:Int)(ha:-9223372036854775808<=a/\a<9223372036854775808)(hb:-9223372036854775808<=b/\b<9223372036854775808)(h0:b≠0) :
  Ca E0 184 [.d (.v (.int .i64 a)),.d (.v (.int .i64 b))] (.d (.t [qD (FH a b),.v (.int .i64 0)]),none):=by
 have l1:=DU ha;have l2:=DU hb;obtain⟨Kq,_,t1,t2,t3⟩:=((FE a ha).j ((FE b hb).j ((DN (s:=decide (a<0) != decide (b<0)) (n:=a.natAbs) (d:=b.natAbs) (by omega) (by omega) (by omega)).any))).at 0;have e:vX (decide (a<0) != decide (b<0)) a.natAbs b.natAbs=FH a b:=rfl;rw[e]at t3;generalize Kq=N at*;refine Ca.bO (n:=N+80) ?_;rw[aA rfl (k184:E0.fn _=_) rfl];have hb0:(b==0)=false:=by simpa using h0
 simp only[fq,qD,raw,LD]at*;generalize LL (qn (FH a b))=x9,LL (qd (FH a b))=y1,qs (FH a b)=sg,LL (enc a.natAbs)=x1,LL (enc b.natAbs)=x2,decide (a<0)=s1,decide (b<0)=s2 at*;simp only[bne]at t3;simp -implicitDefEqProofs[f184,mF,t1,t2,t3,hb0]
theorem Ya (a b:Int)(h0:b≠0):FH a b=(a:Rat) / (b:Rat):=by
 have h:∀ v:Int,qs ((v:Int):Rat)=decide (v<0)/\((v:Int):Rat).num=v/\((v:Int):Rat).den=1:=fun v=>⟨by unfold qs;rfl,rfl,rfl⟩
 have hb:((b:Int):Rat)≠0:=by exact_mod_cast h0
 rw[<-Ul _ _ hb,(h a).1,(h b).1,(h a).2.1,(h a).2.2,(h b).2.1,(h b).2.2];simp[FH]
end Fi.S
