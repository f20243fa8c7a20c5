/- Numbers of package rational. -/
import Derived.Test.YtonmcbnjifeagaaGreatDoorCA
set_option linter.unusedVariables false
set_option linter.unusedSimpArgs false
noncomputable section
namespace Fi.S
open Go Fi
set_option maxHeartbeats 8000000
theorem enc_len {n k:Nat}(h1:4294967296 ^ k<=n)(h2:n<4294967296 ^ (k+1)):(enc n).length=k+1:=by
 have a:=enc_length h2;rcases Nat.lt_or_ge k (enc n).length with h|h
 ·omega
 ·exfalso;have h3:=val_lt (lim_enc n);rw[val_enc]at h3;have h4:=Nat.pow_le_pow_right (n:=4294967296) (by omega) h;omega
theorem enc_cons {u:Nat}(h:0<u):enc u=u % 4294967296::enc (u / 4294967296):=by
 rw[enc,if_neg (by omega)]
theorem at0_enc (n:Nat):∀ (u:Nat),at0 (enc u) n=u / 4294967296 ^ n % 4294967296:=by
 induction n with
 | zero =>
  intro u;rcases Nat.eq_zero_or_pos u with rfl|h
  ·simp[enc_zero,at0]
  ·rw[enc_cons h];simp[at0]
 | succ n ih =>
  intro u;rcases Nat.eq_zero_or_pos u with rfl|h
  ·simp[enc_zero,at0]
  ·have:at0 (enc u) (n+1)=at0 (enc (u / 4294967296)) n:=by rw[enc_cons h];simp[at0]
   rw[this,ih,Nat.div_div_eq_div_mul,Nat.pow_succ,Nat.mul_comm]
theorem enc_top (k:Nat):∀ {y:Nat},4294967296 ^ k<=y->y<4294967296 ^ (k+1)->∃ lo,enc y=lo++[y / 4294967296 ^ k]/\lo.length=k:=by
 induction k with
 | zero =>
  intro y h1 h2;simp at h1 h2;refine⟨[],?_,rfl⟩;rw[enc_small (by omega) (by omega)];simp
 | succ k ih =>
  intro y h1 h2;have hp:0<4294967296 ^ (k+1):=Nat.pow_pos (by omega);obtain⟨lo,e,hl⟩:=ih (y:=y / 4294967296) (by rw[Nat.le_div_iff_mul_le (by omega),<-Nat.pow_succ];exact h1) (by rw[Nat.div_lt_iff_lt_mul (by omega),<-Nat.pow_succ];exact h2);refine⟨y % 4294967296::lo,?_,by simp[hl]⟩;rw[enc_cons (by omega),e,Nat.div_div_eq_div_mul,Nat.pow_succ,Nat.mul_comm (4294967296 ^ k)];rfl
theorem blen_bounds {x:Nat}(h:0<x):2 ^ (blen x-1)<=x/\x<2 ^ blen x:=by
 unfold blen;rw[if_neg (by omega)];exact⟨Nat.log2_self_le (by omega),Nat.lt_log2_self⟩
theorem norm_top {y k:Nat}(h1:4294967296 ^ k<=y)(h2:y<4294967296 ^ (k+1)) :
  y*2 ^ (32-blen (y / 4294967296 ^ k))<4294967296 ^ (k+1)/\4294967296 ^ k<=y*2 ^ (32-blen (y / 4294967296 ^ k)):=by
 have hp:0<4294967296 ^ k:=Nat.pow_pos (by omega);have ht0:0<y / 4294967296 ^ k:=Nat.div_pos h1 hp;have ht1:y / 4294967296 ^ k<4294967296:=by rw[Nat.div_lt_iff_lt_mul hp,Nat.mul_comm,<-Nat.pow_succ];exact h2
 have hb:=blen_bounds ht0;have hb2:=blen_lt ht1;have hy:y<(y / 4294967296 ^ k+1)*4294967296 ^ k:=by
  have:=Nat.lt_mul_div_succ y hp;rw[Nat.mul_comm];exact this
 generalize y / 4294967296 ^ k=t at*;have hq:2 ^ blen t*2 ^ (32-blen t)=4294967296:=by rw[<-Nat.pow_add,show blen t+(32-blen t)=32 by omega]
 have hr:0<2 ^ (32-blen t):=Nat.pow_pos (by omega);generalize 2 ^ (32-blen t)=r,2 ^ blen t=s at*;constructor
 ·rw[Nat.pow_succ]
  calc y*r<(t+1)*4294967296 ^ k*r:=Nat.mul_lt_mul_of_pos_right hy hr
   _<=s*4294967296 ^ k*r:=Nat.mul_le_mul_right _ (Nat.mul_le_mul_right _ hb.2)
   _=4294967296 ^ k*4294967296:=by rw[Nat.mul_right_comm,hq,Nat.mul_comm]
 ·exact Nat.le_trans h1 (Nat.le_mul_of_pos_right _ hr)
theorem digit_le {u v k j:Nat}(hv:4294967296 ^ k<=v)(hu:u<v*4294967296 ^ j*4294967296) :
  u / (v*4294967296 ^ j)<=min (u / 4294967296 ^ (j+k) / (v / 4294967296 ^ k)) 4294967295:=by
 have hp:0<4294967296 ^ k:=Nat.pow_pos (by omega);have hp2:0<4294967296 ^ j:=Nat.pow_pos (by omega);have hvt:0<v / 4294967296 ^ k:=Nat.div_pos hv hp;have hw:0<v*4294967296 ^ j:=Nat.mul_pos (by omega) hp2;have h1:u / (v*4294967296 ^ j)<4294967296:=by rw[Nat.div_lt_iff_lt_mul hw,Nat.mul_comm];exact hu
 have h2:=Nat.div_mul_le_self u (v*4294967296 ^ j);have h3:=Nat.div_mul_le_self v (4294967296 ^ k);have:u / (v*4294967296 ^ j)<=u / 4294967296 ^ (j+k) / (v / 4294967296 ^ k):=by
  rw[Nat.le_div_iff_mul_le hvt,Nat.le_div_iff_mul_le (Nat.pow_pos (by omega))];generalize u / (v*4294967296 ^ j)=d,v / 4294967296 ^ k=t at*;rw[Nat.pow_add];generalize 4294967296 ^ k=K,4294967296 ^ j=J at*
  calc d*t*(J*K)=d*(t*K*J):=by grind
   _<=d*(v*J):=Nat.mul_le_mul_left _ (Nat.mul_le_mul_right _ h3)
   _<=u:=h2
 omega
theorem two_limbs {u n:Nat}(h:u<4294967296 ^ (n+2)):at0 (enc u) (n+1)*4294967296+at0 (enc u) n=u / 4294967296 ^ n/\at0 (enc u) (n+1)<4294967296/\at0 (enc u) n<4294967296:=by
 rw[at0_enc,at0_enc];have hp:0<4294967296 ^ n:=Nat.pow_pos (by omega);have h1:u / 4294967296 ^ (n+1)=u / 4294967296 ^ n / 4294967296:=by rw[Nat.div_div_eq_div_mul,Nat.pow_succ]
 have h2:u / 4294967296 ^ n<4294967296*4294967296:=by
  rw[Nat.div_lt_iff_lt_mul hp];rw[Nat.pow_add]at h;have e:(4294967296:Nat) ^ 2=4294967296*4294967296:=by rfl
  rw[e,Nat.mul_comm]at h;exact h
 rw[h1];generalize u / 4294967296 ^ n=t at*;have h3:t / 4294967296<4294967296:=by omega
 omega
theorem div_step {u w X Q B:Nat}(hB:X=Q*B*w+u):X=(u / w+B*Q)*w+u % w:=by
 have:=Nat.div_add_mod u w;rw[Nat.add_mul,Nat.mul_comm B Q,Nat.mul_comm (u / w) w];omega
end Fi.S
namespace Fi.S
open Go Fi
set_option maxHeartbeats 8000000
attribute [local simp] oo og ci ml mv ld lf fa lo st0 cl ia lr fl ln sv fb mF mi mn bx bc bl pF pT sl EX_skip EX_ret EX_exit EX_kill EX_seq EX_cond EX_block EX_region ROps_nil ROps_cons RK_mov RK_pick RK_bin RK_conv RK_beq RK_aeq RK_nileq RK_un RK_box RK_new RK_load RK_store RK_faddr RK_field RK_iaddr RK_aaddr RK_index RK_build RK_lit RK_len RK_maxi RK_mini RK_app RK_slice RK_mk RK_ext RK_clo RK_call RK_callv RK_callr RK_callw RK_loadl RK_mkmap RK_mget RK_mput RK_cap RK_appz callFull RK_slen RK_sindex RK_sslice guardV runK argV argsV doCall callPure D.cells FV.cells FV.one D.one oneV St.push St.heap St.setHeap splice partF partD s_add s_sub s_mul s_quo s_rem s_or s_and s_xor s_shl s_shr s_eql s_neq s_lss s_leq s_gtr s_geq unV setVars killVars apartOk finish ressV resV leavesL leaves leaveL leave1 allD mkA fillF finish2 isPure oneOf freezeAll FV.rows FV.rows1 D.norm D.norm1 scalar D.isV FV.shift FV.shiftL AObj.shift pureElem fillE elems FStmt.l FStmt.r FStmt.bl FStmt.lp
def ovB:FStmt:=fOver.body.r.r.r.r.r.l.r.bl.lp
def oiB:FStmt:=ovB.r.l.bl.r.r.r.l.bl.lp
def oiS (up u v:Nat)(es:List D)(L j g p:Nat)(t:FV):St:=(st0 [.u,.u,.ls (.loc 0) 0 1 0 L,.u,.u,.u,.d (.v (.int .i64 up)),.d (LD (enc u)),.d (LD (enc v)),.d (.v (.int .i64 j)),.u,.d (.v (.int .u64 g)),.d (LD (enc p)),.u,.u,t] [.row 0 1 es])
theorem over_inner (up u v L j d:Nat)(es:List D)(hv:0<v)(hj:j<=100000000)(lu:(enc u).length<=100000000)(lv:(enc v).length<=100000000)(lw:(enc (v*4294967296 ^ j*4294967295)).length<=100000000)
  (hd:d=u / (v*4294967296 ^ j)) (g:Nat) (hg:d<=g) (hg2:g<=4294967295) :
  Ex E0 (.loop oiB) (oiS up u v es L j g (v*4294967296 ^ j*g) .u) (.exit 2,oiS up u v es L j d (v*4294967296 ^ j*d) (.d (.v (.bool false)))):=by
 have hw:0<v*4294967296 ^ j:=Nat.mul_pos hv (Nat.pow_pos (by omega));have hl:=ca_left (enc v) (32*j) (by omega) lv (lim_enc _);rw[val_enc,Nat.pow_mul,show(2:Nat) ^ 32=4294967296 by rfl]at hl;generalize v*4294967296 ^ j=w at*;have key:=Ex.inv (E:=E0) (b:=oiB) (S:=fun g=>oiS up u v es L j g (w*g) .u) (fun g=>g) (fun g=>d<=g/\g<=4294967295) (fun r=>r=(.exit 2,oiS up u v es L j d (w*d) (.d (.v (.bool false))))) ?_ g ⟨hg,hg2⟩
 ·obtain⟨r,hr,rfl⟩:=key;exact hr
 ·clear hg hg2 g;rintro g ⟨h1,h2⟩;have lp:(enc (w*g)).length<=100000000:=Nat.le_trans (enc_length_mono (Nat.mul_le_mul_left w h2)) lw;obtain⟨n1,hc⟩:=(ca_cmp (enc u) (enc (w*g)) (by omega) (by omega) (lim_enc _) (lim_enc _)).any;rw[val_enc,val_enc]at hc
  by_cases hlt:d<g
  ·have hu:u<w*g:=by rw[hd,Nat.div_lt_iff_lt_mul hw,Nat.mul_comm]at hlt;exact hlt
   have hc1:cmpN u (w*g)=-1:=by unfold cmpN;rw[if_pos hu]
   rw[hc1]at hc;have hle:w<=w*g:=Nat.le_mul_of_pos_right w (by omega);obtain⟨n2,hl⟩:=hl.any;obtain⟨n3,hm⟩:=(ca_minus (enc (w*g)) (enc w) (by omega) (enc_length_mono hle) (lim_enc _) (lim_enc _) (by rw[val_enc,val_enc];exact hle)).any;have hsub:w*g-w=w*(g-1):=by rw[Nat.mul_sub,Nat.mul_one]
   rw[val_enc,val_enc,hsub]at hm;replace hc:=hc (n1+n2+n3) (by omega);replace hl:=hl (n1+n2+n3) (by omega);replace hm:=hm (n1+n2+n3) (by omega);generalize n1+n2+n3=N at*;refine .inl ⟨g-1,Ex.of (n:=N+60) ?_,by omega,by omega,by omega⟩;have w1:wrapS .u64 ((g:Int)-1)=((g-1:Nat):Int):=by rw[wrap_u64 (by omega)];omega
   have w2:wrapS .i64 (32*(j:Int))=((32*j:Nat):Int):=by rw[wrap_i64 (by omega)];omega
   clear hc1 hsub lp lw hd;unfold oiS;simp only[LD]at hc hl hm ⊢;generalize LL (enc u)=us,LL (enc v)=vs,LL (enc w)=ws,LL (enc (w*g))=ps,LL (enc (w*(g-1)))=ps' at*;generalize g-1=g',32*j=j32 at*;simp -implicitDefEqProofs [ovB,oiB,f226,hc,hl,hm,w1,w2]
  ·have hu:¬ u<w*g:=by rw[hd,Nat.div_lt_iff_lt_mul hw,Nat.mul_comm]at hlt;exact hlt
   have hg:g=d:=by omega
   have hc1:(cmpN u (w*g):Int)=0\/cmpN u (w*g)=1:=by unfold cmpN;rw[if_neg hu];split<;>simp
   replace hc:=hc n1 (by omega);refine .inr ⟨_,Ex.of (n:=n1+60) ?_,by simp,rfl⟩;rw[<-hg];clear lp lw hd hg;unfold oiS;simp only[LD]at hc ⊢;generalize LL (enc u)=us,LL (enc v)=vs,LL (enc (w*g))=ps at*;rcases hc1 with e|e<;>rw[e]at hc<;>simp -implicitDefEqProofs [ovB,oiB,f226,hc]
def ovS (up u v:Nat)(es:List D)(L:Nat)(k:Int)(t:FV):St:=(st0 [.u,.u,.ls (.loc 0) 0 1 0 L,.u,.u,.u,.d (.v (.int .i64 up)),.d (LD (enc u)),.d (LD (enc v)),.d (.v (.int .i64 k)),.u,.u,.u,.u,t,.u] [.row 0 1 es])
theorem over_guess (up u v k L j:Nat)(es:List D)(hv:4294967296 ^ k<=v)(hv2:v<4294967296 ^ (k+1))(hj:j<=100000000)(hk:k<=100000000)(lu:(enc u).length<=100000000)(hu:u<4294967296 ^ (j+k+2)) :
  Ex E0 ovB.r.l.bl.r.l {ovS up u v es L j .u with vars:=[.u,.u,.ls (.loc 0) 0 1 0 L,.u,.u,.u,.d (.v (.int .i64 up)),.d (LD (enc u)),.d (LD (enc v)),.d (.v (.int .i64 j)),.d (.v (.int .i64 ((j+k+1:Nat):Int))),.u,.u,.u,.u,.u]}
   (.norm,{ovS up u v es L j .u with vars:=[.u,.u,.ls (.loc 0) 0 1 0 L,.u,.u,.u,.d (.v (.int .i64 up)),.d (LD (enc u)),.d (LD (enc v)),.d (.v (.int .i64 j)),.u,.d (.v (.int .u64 ((min (u / 4294967296 ^ (j+k) / (v / 4294967296 ^ k)) 4294967295:Nat):Int))),.u,.u,.u,.u]}):=by
 have lv:(LL (enc v)).length=k+1:=by simp[LL,enc_len hv hv2]
 have lv':=enc_len hv hv2;obtain⟨e1,b1,b2⟩:=two_limbs hu;have e3:at0 (enc v) k=v / 4294967296 ^ k:=by
  rw[at0_enc,Nat.mod_eq_of_lt];rw[Nat.div_lt_iff_lt_mul (Nat.pow_pos (by omega)),Nat.mul_comm,<-Nat.pow_succ];exact hv2
 have b3:v / 4294967296 ^ k<4294967296:=by rw[<-e3,at0_enc];exact Nat.mod_lt _ (by omega)
 have b4:0<v / 4294967296 ^ k:=Nat.div_pos hv (Nat.pow_pos (by omega));have h1:=fun m=>run_at m (enc u) (by omega) (j+k+1) (by omega) (lim_enc _)
 have h2:=fun m=>run_at m (enc u) (by omega) (j+k) (by omega) (lim_enc _)
 have h3:=fun m=>run_at m (enc v) (by omega) k (by omega) (lim_enc _)
 rw[e3]at h3;rw[<-e1];generalize at0 (enc u) (j+k+1)=x1 at*;generalize at0 (enc u) (j+k)=x0,v / 4294967296 ^ k=vt at*;have w1:=shl32 b1;have w2:=or_shift b1 b2;obtain⟨P,hP⟩:∃ P:Nat,(P:Int)=(x1:Int)*4294967296:=⟨x1*4294967296,by omega⟩
 obtain⟨T,hT⟩:∃ T:Nat,T=x1*4294967296+x0:=⟨_,rfl⟩
 rw[<-hP]at w1 w2;rw[show(P:Int)+(x0:Int)=(T:Int) by omega]at w2;rw[<-hT];have w5:Int.tdiv (T:Int) (vt:Int)=((T / vt:Nat):Int):=by rw[Int.tdiv_eq_ediv_of_nonneg (by omega),Int.natCast_ediv]
 have hq:T / vt<18446744073709551616:=Nat.lt_of_le_of_lt (Nat.div_le_self _ _) (by omega);generalize T / vt=Q at*;have w6:wrapS .u64 (Q:Int)=(Q:Int):=wrap_u64 (by omega);have w7:wrapS .i64 (((j+k+1:Nat):Int)-1)=((j+k:Nat):Int):=by rw[wrap_i64 (by omega)];omega
 have w8:wrapS .i64 (((k+1:Nat):Int)-1)=(k:Int):=by rw[wrap_i64 (by omega)];omega
 have hd0:¬ ((vt:Int)=0):=by omega
 have hd0':¬ vt=0:=by omega
 clear hP hT e1 e3 hu hv hv2;obtain⟨G,hG⟩:∃ G:Nat,G=min Q 4294967295:=⟨_,rfl⟩
 rw[<-hG];have hmin:((4294967295:Int)<(Q:Int)/\(G:Int)=4294967295)\/(¬ (4294967295:Int)<(Q:Int)/\(Q:Int)=(G:Int)):=by omega
 clear hG;refine Ex.of (n:=90) ?_;unfold ovS;simp only[LD]at h1 h2 h3 ⊢;generalize LL (enc u)=us,LL (enc v)=vs,j+k+1=n at*;generalize j+k=n1,k+1=m at*;rcases hmin with ⟨a,b⟩|⟨a,b⟩
 ·simp -implicitDefEqProofs [ovB,f226,lv,h1,h2,h3,w1,w2,w5,w6,w7,w8,hd0,hd0',a,b]
 ·rw[b]at a w5 w6;simp -implicitDefEqProofs [ovB,f226,lv,h1,h2,h3,w1,w2,w5,w6,w7,w8,hd0,hd0',a]
theorem over_end (up u v L:Nat)(es:List D):EX E0 60 ovB (ovS up u v es L (-1) .u)=some (.exit 0,ovS up u v es L (-1) (.d (.v (.bool false)))):=by
 unfold ovS;simp only[LD];generalize LL (enc u)=us,LL (enc v)=vs at*;simp -implicitDefEqProofs [ovB,f226]
theorem over_part (up u v L j g:Nat)(es:List D)(hj:j<=100000000)(hg:g<=4294967295)(lv:(enc v).length<=10000000) :
  Ex E0 ovB.r.l.bl.r.r.l {ovS up u v es L j .u with vars:=[.u,.u,.ls (.loc 0) 0 1 0 L,.u,.u,.u,.d (.v (.int .i64 up)),.d (LD (enc u)),.d (LD (enc v)),.d (.v (.int .i64 j)),.u,.d (.v (.int .u64 g)),.u,.u,.u,.u]}
   (.norm,oiS up u v es L j g (v*4294967296 ^ j*g) .u):=by
 have lg:(enc g).length<=1:=enc_length (k:=1) (by omega);have lvg:(enc (v*g)).length<=100000000:=by
  refine Nat.le_trans (enc_length (k:=(enc v).length+1) ?_) (by omega);have h1:=val_lt (lim_enc v);rw[val_enc]at h1;rw[Nat.pow_succ];exact Nat.lt_of_le_of_lt (Nat.mul_le_mul_left v (show g<=4294967296 by omega)) (Nat.mul_lt_mul_of_pos_right h1 (by omega))
 obtain⟨n1,h1⟩:=(ca_clean [g] (by simp)).any;obtain⟨n2,h2⟩:=(ca_times (enc v) (enc g) (by omega) (by omega) (lim_enc _) (lim_enc _)).any;obtain⟨n3,h3⟩:=(ca_left (enc (v*g)) (32*j) (by omega) lvg (lim_enc _)).any;rw[trim_one _ (by omega)]at h1;rw[val_enc,val_enc]at h2;rw[val_enc,Nat.pow_mul,show(2:Nat) ^ 32=4294967296 by rfl]at h3;rw[show v*g*4294967296 ^ j=v*4294967296 ^ j*g by rw[Nat.mul_right_comm]]at h3;replace h1:=h1 (n1+n2+n3) (by omega);replace h2:=h2 (n1+n2+n3) (by omega);replace h3:=h3 (n1+n2+n3) (by omega);generalize n1+n2+n3=N at*;have w1:wrapS .u32 (g:Int)=(g:Int):=wrap_u32 (by omega);have w2:wrapS .i64 (32*(j:Int))=((32*j:Nat):Int):=by rw[wrap_i64 (by omega)];omega
 refine Ex.of (n:=N+60) ?_;unfold ovS oiS;simp only[LD,LL,List.map_cons,List.map_nil]at h1 h2 h3 ⊢;generalize List.map (fun(x:Nat)=>D.v (Value.int IntKind.u32 (x:Int))) (enc u)=us at*;generalize List.map (fun(x:Nat)=>D.v (Value.int IntKind.u32 (x:Int))) (enc v)=vs at*;generalize List.map (fun(x:Nat)=>D.v (Value.int IntKind.u32 (x:Int))) (enc g)=gs at*;generalize List.map (fun(x:Nat)=>D.v (Value.int IntKind.u32 (x:Int))) (enc (v*g))=vgs at*;generalize List.map (fun(x:Nat)=>D.v (Value.int IntKind.u32 (x:Int))) (enc (v*4294967296 ^ j*g))=ps at*;generalize 32*j=j32 at*;simp -implicitDefEqProofs [ovB,f226,h1,h2,h3,w1,w2]
theorem over_round (up u v k L j:Nat)(qs:List Nat)(hv:4294967296 ^ k<=v)(hv2:v<4294967296 ^ (k+1))(hj:j<=50000000)(hk:k<=1000000)(lu:(enc u).length<=100000000)(hu:u<v*4294967296 ^ j*4294967296)
  (hL:j+1+qs.length=L) :
  Ex E0 ovB (ovS up u v (LL (row1 (j+1) qs)) L j .u) (.norm,ovS up (u % (v*4294967296 ^ j)) v (LL (row1 j (u / (v*4294967296 ^ j)::qs))) L ((j:Int)-1) .u):=by
 have hv0:0<v:=Nat.lt_of_lt_of_le (Nat.pow_pos (by omega)) hv;have hw:0<v*4294967296 ^ j:=Nat.mul_pos hv0 (Nat.pow_pos (by omega));have lv:=enc_len hv hv2;have hdig:=digit_le hv hu;have hd32:u / (v*4294967296 ^ j)<4294967296:=by rw[Nat.div_lt_iff_lt_mul hw,Nat.mul_comm];exact hu
 have hu2:u<4294967296 ^ (j+k+2):=by
  refine Nat.lt_of_lt_of_le hu ?_;rw[show j+k+2=(k+1)+j+1 by omega,Nat.pow_succ,Nat.pow_add];exact Nat.mul_le_mul_right _ (Nat.mul_le_mul_right _ (by omega))
 have lw:(enc (v*4294967296 ^ j*4294967295)).length<=100000000:=by
  refine Nat.le_trans (enc_length (k:=(k+1)+j+1) ?_) (by omega);rw[Nat.pow_succ,Nat.pow_add];exact Nat.lt_of_le_of_lt (Nat.mul_le_mul_left _ (show 4294967295<=4294967296 by omega)) (Nat.mul_lt_mul_of_pos_right (Nat.mul_lt_mul_of_pos_right hv2 (Nat.pow_pos (by omega))) (by omega))
 have hguess:=over_guess up u v k L j (LL (row1 (j+1) qs)) hv hv2 (by omega) (by omega) lu hu2;have hpart:=over_part up u v L j (min (u / 4294967296 ^ (j+k) / (v / 4294967296 ^ k)) 4294967295) (LL (row1 (j+1) qs)) (by omega) (Nat.min_le_right ..) (by omega);have hinner:=over_inner up u v L j (u / (v*4294967296 ^ j)) (LL (row1 (j+1) qs)) hv0 (by omega) lu (by omega) lw rfl _ hdig (Nat.min_le_right ..);have hmul:v*4294967296 ^ j*(u / (v*4294967296 ^ j))<=u:=Nat.mul_div_le u _;obtain⟨n1,hm⟩:=(ca_minus (enc u) (enc (v*4294967296 ^ j*(u / (v*4294967296 ^ j)))) (by omega) (enc_length_mono hmul) (lim_enc _) (lim_enc _) (by rw[val_enc,val_enc];exact hmul)).get;have hmod:u-v*4294967296 ^ j*(u / (v*4294967296 ^ j))=u % (v*4294967296 ^ j):=by
  have:=Nat.div_add_mod u (v*4294967296 ^ j);omega
 rw[val_enc,val_enc,hmod]at hm;have hz:=row1_at qs j;have hset:=row1_set qs j (u / (v*4294967296 ^ j));have hlen:=row1_length qs (j+1);have hlv:(LL (enc v)).length=k+1:=by simp[LL,lv]
 generalize LL (row1 (j+1) qs)=es at*;rw[<-hset];clear hset;generalize u / (v*4294967296 ^ j)=d,min (u / 4294967296 ^ (j+k) / (v / 4294967296 ^ k)) 4294967295=g at*;generalize v*4294967296 ^ j=w at*;have hjL:j<L:=by omega
 have hz2:=idx hz;have w1:wrapS .i64 ((j:Int)+((k+1:Nat):Int))=((j+k+1:Nat):Int):=by rw[wrap_i64 (by omega)];omega
 have w2:wrapS .u32 (d:Int)=(d:Int):=wrap_u32 (by omega);have w3:wrapS .i64 ((j:Int)-1)=(j:Int)-1:=wrap_i64 (by omega);have w4:(0:Int)<=(j:Int):=by omega
 show Ex E0 (.seq ovB.l (.seq (.block 1 (.seq ovB.r.l.bl.l (.seq ovB.r.l.bl.r.l (.seq ovB.r.l.bl.r.r.l (.seq (.block 2 (.loop oiB)) (.seq ovB.r.l.bl.r.r.r.r.l ovB.r.l.bl.r.r.r.r.r)))))) ovB.r.r)) _ _;refine Ex.seq (st1:=ovS up u v es L j (.d (.v (.bool true)))) (Ex.of (n:=40) ?_) (Ex.seq (st1:=ovS up (u % w) v (es.set j (.v (.int .u32 (d:Int)))) L j .u) (Ex.block_norm (Ex.seq (Ex.of (n:=40) ?_) (Ex.seq hguess (Ex.seq hpart (Ex.seq hinner.block
  (Ex.seq (st1:={ovS up (u % w) v es L j .u with vars:=[.u,.u,.ls (.loc 0) 0 1 0 L,.u,.u,.u,.d (.v (.int .i64 up)),.d (LD (enc (u % w))),.d (LD (enc v)),.d (.v (.int .i64 j)),.u,.d (.v (.int .u64 d)),.u,.u,.u,.u]}) (Ex.of (n:=n1+40) ?_) (Ex.of (n:=40) ?_))))))) (Ex.of (n:=40) ?_))
 ·unfold ovS;simp only[LD];generalize LL (enc u)=us at*;generalize LL (enc v)=vs at*;simp -implicitDefEqProofs [ovB,f226,w4]
 ·unfold ovS;simp only[LD];generalize LL (enc u)=us at*;generalize LL (enc v)=vs at*;generalize j+k+1=n at*;generalize k+1=m at*;simp -implicitDefEqProofs [ovB,f226,hlv,w1]
 ·unfold ovS oiS;simp only[LD]at hm ⊢;generalize LL (enc u)=us at*;generalize LL (enc v)=vs at*;generalize LL (enc (u % w))=ms at*;generalize LL (enc (w*d))=ps at*;simp -implicitDefEqProofs [ovB,f226,hm]
 ·unfold ovS;simp only[LD];generalize LL (enc (u % w))=us at*;generalize LL (enc v)=vs at*;simp -implicitDefEqProofs [ovB,f226,hz,hz2,w2,w4,hjL,hlen]
 ·unfold ovS;simp only[LD];generalize LL (enc (u % w))=us at*;generalize LL (enc v)=vs at*;simp -implicitDefEqProofs [ovB,f226,w3]
theorem over_loop (up u0 v k L:Nat)(hv:4294967296 ^ k<=v)(hv2:v<4294967296 ^ (k+1))(hL:L<=50000000)(hk:k<=1000000)(lu:(enc u0).length<=100000000)(hu:u0<v*4294967296 ^ L) :
  ∃ r,Ex E0 (.loop ovB) (ovS up u0 v (LL (row1 L [])) L ((L:Int)-1) .u) r /\
   ∃ qs,Lim qs/\qs.length=L/\val qs=u0 / v/\r=(.exit 0,ovS up (u0 % v) v (LL qs) L (-1) (.d (.v (.bool false)))):=by
 have hv0:0<v:=Nat.lt_of_lt_of_le (Nat.pow_pos (by omega)) hv;refine Ex.inv (S:=fun t:Nat × Nat × List Nat=>ovS up t.2.1 v (LL (row1 t.1 t.2.2)) L ((t.1:Int)-1) .u) (fun t=>t.1)
  (fun t=>t.1+t.2.2.length=L/\Lim t.2.2/\t.2.1<v*4294967296 ^ t.1/\u0=val t.2.2*4294967296 ^ t.1*v+t.2.1) _ ?_ (L,u0,[]) ?_
 ·rintro⟨j,u,qs⟩ ⟨h1,h2,h3,h4⟩;simp only at h1 h2 h3 h4;cases j with
  | zero =>
   simp only[Nat.pow_zero,Nat.mul_one]at h3 h4;have hd:u0 / v=val qs:=by rw[h4,Nat.mul_comm,Nat.mul_add_div hv0,Nat.div_eq_of_lt h3];rfl
   have hm:u0 % v=u:=by rw[h4,Nat.mul_comm,Nat.mul_add_mod,Nat.mod_eq_of_lt h3]
   refine .inr ⟨_,?_,?_,qs,h2,by omega,hd.symm,rfl⟩
   ·rw[hm];have:=over_end up u v L (LL qs);simpa[row1] using Ex.of this
   ·simp
  | succ j =>
   have hu0:u<=u0:=by omega
   have hw:0<v*4294967296 ^ j:=Nat.mul_pos hv0 (Nat.pow_pos (by omega));have h3':u<v*4294967296 ^ j*4294967296:=by rw[Nat.mul_assoc,<-Nat.pow_succ];exact h3
   have hr:=over_round up u v k L j qs hv hv2 (by omega) hk (Nat.le_trans (enc_length_mono hu0) lu) h3' (by omega);refine .inl ⟨(j,u % (v*4294967296 ^ j),u / (v*4294967296 ^ j)::qs),?_,by simp,?_,?_,?_,?_⟩
   ·simp only;rw[show(((j+1:Nat):Int)-1)=(j:Int) by omega];exact hr
   ·simp only[List.length_cons];omega
   ·intro y hy;rcases List.mem_cons.1 hy with rfl|hy
    ·rw[Nat.div_lt_iff_lt_mul hw,Nat.mul_comm];exact h3'
    ·exact h2 y hy
   ·exact Nat.mod_lt _ hw
   ·simp only[val];have e:u0=val qs*4294967296*(v*4294967296 ^ j)+u:=by
     rw[h4,Nat.pow_succ]
     congr 1
     generalize 4294967296 ^ j=P;grind
    rw[Nat.mul_assoc,Nat.mul_comm _ v];exact div_step e
 ·refine⟨by simp,?_,by simpa using hu,by simp[val]⟩;intro x hx;cases hx
theorem enc_ge {y:Nat}(hy:0<y):4294967296 ^ ((enc y).length-1)<=y:=by
 rcases Nat.lt_or_ge y (4294967296 ^ ((enc y).length-1)) with h|h
 ·have h1:=enc_length h;have h2:enc y≠[]:=by intro e;rw[enc_nil]at e;omega
  have h3:0<(enc y).length:=List.length_pos_iff.2 h2;omega
 ·exact h
theorem enc_lt (y:Nat):y<4294967296 ^ (enc y).length:=by
 have:=val_lt (lim_enc y)
 rwa [val_enc]at this
theorem ca_over (x y:Nat)(hy:0<y)(lx:(enc x).length<=1000000)(ly:(enc y).length<=1000000) :
  Ca E0 nOver [.d (LD (enc x)),.d (LD (enc y))] (.d (.t [LD (enc (x / y)),LD (enc (x % y))]),none):=by
 by_cases hsm:y<4294967296
 ·have:=ca_over1 (enc x) y (by omega) (lim_enc x) hsm hy
  rwa [val_enc]at this
 ·have hlen0:0<(enc y).length:=List.length_pos_iff.2 (by intro e;rw[enc_nil]at e;omega);obtain⟨k,hk⟩:∃ k,(enc y).length=k+1:=⟨(enc y).length-1,by omega⟩
  have h1:4294967296 ^ k<=y:=by have:=enc_ge hy;rw[hk]at this;simpa using this
  have h2:y<4294967296 ^ (k+1):=by have:=enc_lt y;rwa [hk]at this
  have hk1:1<=k:=by
   rcases Nat.eq_zero_or_pos k with rfl|h
   ·simp at h2;omega
   ·exact h
  obtain⟨lo,htop,hlo⟩:=enc_top k h1 h2;obtain⟨g1,g2⟩:=norm_top h1 h2;have ht1:y / 4294967296 ^ k<4294967296:=by rw[Nat.div_lt_iff_lt_mul (Nat.pow_pos (by omega)),Nat.mul_comm,<-Nat.pow_succ];exact h2
  have hbl:=blen_lt ht1;have hlength:=fun m=>run_length m lo (y / 4294967296 ^ k) ht1 (by omega)
  rw[<-htop,hlo]at hlength;generalize hbe:blen (y / 4294967296 ^ k)=bl at*;generalize hup:32-bl=up at*;have hup32:up<=32:=by omega
  obtain⟨n1,hlx⟩:=(ca_left (enc x) up (by omega) (by omega) (lim_enc x)).any;obtain⟨n2,hly⟩:=(ca_left (enc y) up (by omega) (by omega) (lim_enc y)).any;rw[val_enc]at hlx hly;have hp:0<2 ^ up:=Nat.pow_pos (by omega);have lu:(enc (x*2 ^ up)).length<=(enc x).length+1:=by
   refine enc_length ?_;rw[Nat.pow_succ];have e1:=enc_lt x;have e2:2 ^ up<=4294967296:=by
    have:=Nat.pow_le_pow_right (n:=2) (by omega) hup32;simpa using this
   exact Nat.lt_of_lt_of_le (Nat.mul_lt_mul_of_pos_right e1 hp) (Nat.mul_le_mul_left _ e2)
  have hq:(x*2 ^ up) / (y*2 ^ up)=x / y:=Nat.mul_div_mul_right x y hp;have hr:(x*2 ^ up) % (y*2 ^ up)=x % y*2 ^ up:=Nat.mul_mod_mul_right (2 ^ up) x y;have hr2:x % y*2 ^ up / 2 ^ up=x % y:=Nat.mul_div_cancel _ hp;have hlv:(enc (y*2 ^ up)).length=k+1:=enc_len g2 g1;have lr:(enc (x % y*2 ^ up)).length<=100000000:=Nat.le_trans (enc_length_mono (Nat.mul_le_mul_right _ (Nat.mod_le x y))) (by omega);obtain⟨n3,hri⟩:=(ca_right (enc (x % y*2 ^ up)) up (by omega) lr (lim_enc _)).any;rw[val_enc,hr2]at hri;have hu0:x*2 ^ up<y*2 ^ up*4294967296 ^ ((enc (x*2 ^ up)).length-k):=by
   refine Nat.lt_of_lt_of_le (enc_lt (x*2 ^ up)) ?_;refine Nat.le_trans ?_ (Nat.mul_le_mul_right _ g2);rw[<-Nat.pow_add];exact Nat.pow_le_pow_right (by omega) (by omega)
  obtain⟨r,hloop,qs,hqs,hql,hqv,rfl⟩:=over_loop up (x*2 ^ up) (y*2 ^ up) k ((enc (x*2 ^ up)).length-k) g2 g1 (by omega) (by omega) (by omega) hu0;rw[hq]at hqv;rw[hr]at hloop;obtain⟨n4,hc⟩:=(ca_clean qs (by omega)).any;rw[trim_eq_enc hqs,hqv]at hc;replace hlx:=hlx (n1+n2+n3+n4) (by omega);replace hly:=hly (n1+n2+n3+n4) (by omega);replace hri:=hri (n1+n2+n3+n4) (by omega);replace hc:=hc (n1+n2+n3+n4) (by omega);generalize n1+n2+n3+n4=N at*;have hlY:(LL (enc y)).length=k+1:=by simp[LL,hk]
  have hlV:(LL (enc (y*2 ^ up))).length=k+1:=by simp[LL,hlv]
  have hlU:(LL (enc (x*2 ^ up))).length=(enc (x*2 ^ up)).length:=by simp[LL]
  have hlQ:(LL qs).length=(enc (x*2 ^ up)).length-k:=by simp[LL,hql]
  have hz:LL (row1 ((enc (x*2 ^ up)).length-k) [])=List.replicate ((enc (x*2 ^ up)).length-k) (.v (.int .u32 0)):=by simp[LL,row1]
  have hLb:(enc (x*2 ^ up)).length-k<=2000000:=by omega
  have hmax:∃ z:Int,z=((enc (x*2 ^ up)).length:Int)-((k+1:Nat):Int)+1/\((z > 0/\z=(((enc (x*2 ^ up)).length-k:Nat):Int))\/(¬ z > 0/\(enc (x*2 ^ up)).length-k=0)):=⟨_,rfl,by omega⟩
  obtain⟨z,hze,hzc⟩:=hmax;have lU:(enc (x*2 ^ up)).length<=1000001:=by omega
  have w1:wrapS .i64 (32*((k+1:Nat):Int))=((32*(k+1):Nat):Int):=by rw[wrap_i64 (by omega)];omega
  have w2:wrapS .i64 (((32*(k+1):Nat):Int)-((32*k+bl:Nat):Int))=(up:Int):=by rw[wrap_i64 (by omega)];omega
  have w3:wrapS .i64 (((enc (x*2 ^ up)).length:Int)-((k+1:Nat):Int))=((enc (x*2 ^ up)).length:Int)-((k+1:Nat):Int):=wrap_i64 (by omega);have w4:wrapS .i64 (((enc (x*2 ^ up)).length:Int)-((k+1:Nat):Int)+1)=z:=by rw[wrap_i64 (by omega),hze]
  have w5:wrapS .i64 ((((enc (x*2 ^ up)).length-k:Nat):Int)-1)=(((enc (x*2 ^ up)).length-k:Nat):Int)-1:=wrap_i64 (by omega);have hne:(((k+1:Nat):Int)==1)=false:=by simp;omega
  clear hu0 g1 g2 hq hr hr2 lr hbe htop hlo hql hqs hqv h1 h2 ht1 hbl;generalize hX:enc (x*2 ^ up)=eX at*;generalize hY:enc (y*2 ^ up)=eY at*;refine Ca.body (o:=.ret) (st1:=(st0 [.u,.u,.d (LD (enc (x / y))),.d (LD (enc (x % y))),.u,.u,.u,.u,.u,.u,.u,.u,.u,.u,.u,.u] [.frz 0 1 (LL qs)])) rfl (k226:E0.fn _=_) rfl ?_ (by intro id h;cases h) ?_
  ·show Ex E0 (.seq fOver.body.l (.seq fOver.body.r.l (.seq fOver.body.r.r.l (.seq fOver.body.r.r.r.l (.seq fOver.body.r.r.r.r.l (.seq (.seq fOver.body.r.r.r.r.r.l.l (.block 0 (.loop ovB))) fOver.body.r.r.r.r.r.r)))))) _ _;refine Ex.seq (st1:=(st0 [.d (LD (enc x)),.d (LD (enc y)),.u,.u,.u,.u,.u,.u,.u,.u,.u,.u,.u,.u,.u,.u] [])) (Ex.of (n:=40) ?_)
    (Ex.seq (st1:=(st0 [.d (LD (enc x)),.d (LD (enc y)),.u,.u,.u,.u,.u,.u,.u,.u,.u,.u,.u,.d (.v (.bool false)),.u,.u] [])) (Ex.of (n:=40) ?_)
    (Ex.seq (st1:=(st0 [.d (LD (enc x)),.d (LD (enc y)),.u,.u,.u,.u,.d (.v (.int .i64 up)),.u,.u,.u,.u,.u,.u,.u,.u,.u] [])) (Ex.of (n:=200) ?_)
    (Ex.seq (st1:=(st0 [.u,.u,.u,.u,.u,.u,.d (.v (.int .i64 up)),.d (LD eX),.d (LD eY),.u,.u,.u,.u,.u,.u,.u] [])) (Ex.of (n:=N+40) ?_)
    (Ex.seq (st1:=(st0 [.u,.u,.ls (.loc 0) 0 1 0 (eX.length-k),.u,.u,.u,.d (.v (.int .i64 up)),.d (LD eX),.d (LD eY),.u,.u,.u,.u,.u,.u,.u] [.row 0 1 (LL (row1 (eX.length-k) []))])) (Ex.of (n:=40) ?_)
    (Ex.seq (Ex.seq (Ex.of (n:=40) ?_) hloop.block) (Ex.of (n:=N+40) ?_))))))
   ·simp -implicitDefEqProofs [f226]
   ·simp only[LD];generalize LL (enc x)=xs,LL (enc y)=ys,k+1=m at*;simp -implicitDefEqProofs [f226,hlY,hne]
   ·simp only[LD]at hlength ⊢;generalize LL (enc x)=xs,LL (enc y)=ys,k+1=m at*;generalize 32*m=m32,32*k+bl=kb at*;simp -implicitDefEqProofs [f226,hlY,hlength,w1,w2]
   ·simp only[LD]at hlx hly ⊢;generalize LL (enc x)=xs,LL (enc y)=ys,LL eX=Xs,LL eY=Ys at*;simp -implicitDefEqProofs [f226,hlx,hly]
   ·have hm1:((eX.length-k:Nat):Int)*4<=1099511627776:=by omega
    have hm2:((eX.length-k:Nat):Int)<=1099511627776:=by omega
    rw[hz];generalize eX.length-k=L at*;generalize eX.length=lX at*;simp only[LD];generalize LL eX=Xs,LL eY=Ys,k+1=m at*;rcases hzc with ⟨a,b⟩|⟨a,b⟩
    ·rw[b]at w4 a;replace a:0<L:=by omega
     simp -implicitDefEqProofs [f226,hlU,hlV,w3,w4,a,hm1,hm2,most]
    ·subst b;simp -implicitDefEqProofs [f226,hlU,hlV,w3,w4,a,most]
   ·unfold ovS;simp only[hX,hY,LD];have hlR:(LL (row1 (eX.length-k) [])).length=eX.length-k:=by rw[row1_length];simp
    generalize LL (row1 (eX.length-k) [])=es at*;generalize eX.length-k=L,LL eX=Xs,LL eY=Ys at*;simp -implicitDefEqProofs [f226,w5]
   ·unfold ovS;simp only[LD]at hc hri ⊢;clear hloop;generalize LL (enc (x % y*2 ^ up))=rs,LL (enc (y*2 ^ up))=Ys,LL (enc (x / y))=as1 at*;generalize LL (enc (x % y))=as2,eX.length-k=L at*;have htk:(LL qs).take L=LL qs:=List.take_of_length_le (by omega);generalize LL qs=Qs at*;simp -implicitDefEqProofs [AObj.view,f226,hlQ,htk,hc,hri]
  ·simp -implicitDefEqProofs [f226,LD,mkT]
theorem gcd_round2 (a b:Nat)(la:(enc a).length<=1000000)(lb:(enc b).length<=1000000)(hb0:0<b):Ex E0 gcB (gcS a b .u) (.norm,gcS b (a % b) .u):=by
 obtain⟨n0,ho⟩:=(ca_over a b hb0 la lb).get;refine Ex.of (n:=n0+60) ?_;unfold gcS;have hlb:∃ m,(LL (enc b)).length=m+1:=by
  have:0<(enc b).length:=List.length_pos_iff.2 (by intro e;rw[enc_nil]at e;omega);exact⟨(enc b).length-1,by simp[LL];omega⟩
 obtain⟨m,hlb⟩:=hlb;have hm:0<(m:Int)+1:=by omega
 simp only[LD]at ho ⊢;generalize LL (enc a)=as',LL (enc b)=bs,LL (enc (a / b))=qs,LL (enc (a % b))=rs at*;simp -implicitDefEqProofs [gcB,f183,hlb,ho,hm]
theorem gcd_loop2 (a b:Nat)(la:(enc a).length<=1000000)(lb:(enc b).length<=1000000):Ex E0 (.loop gcB) (gcS a b .u) (.exit 0,gcS (Nat.gcd a b) 0 (.d (.v (.bool false)))):=by
 induction b using Nat.strongRecOn generalizing a with
 | ind b ih =>
  rcases Nat.eq_zero_or_pos b with rfl|h0
  ·rw[Nat.gcd_zero_right];exact Ex.out (gcd_out a) (by simp)
  ·have hm:=Nat.mod_lt a h0;have:=ih (a % b) hm b lb (Nat.le_trans (enc_length_mono (by omega)) lb);have hg:Nat.gcd a b=Nat.gcd b (a % b):=by rw[Nat.gcd_comm a b,Nat.gcd_rec b a,Nat.gcd_comm]
   rw[hg];exact Ex.next (gcd_round2 a b la lb h0) this
theorem ca_gcd (a b:Nat)(la:(enc a).length<=1000000)(lb:(enc b).length<=1000000):Ca E0 nGcd [.d (LD (enc a)),.d (LD (enc b))] (.d (LD (enc (Nat.gcd a b))),none):=by
 have hl:=gcd_loop2 a b la lb;generalize Nat.gcd a b=g at*;refine Ca.body (o:=.ret) (st1:=(st0 [.u,.u,.d (LD (enc g)),.u,.u] [])) rfl (k183:E0.fn _=_) rfl ?_ (by intro id h;cases h) ?_
 ·show Ex E0 (.seq fGcd.body.l (.seq (.block 0 (.loop gcB)) fGcd.body.r.r)) _ _;refine Ex.seq (st1:=gcS a b .u) (Ex.of (n:=40) ?_) (Ex.seq hl.block (Ex.of (n:=40) ?_))
  ·unfold gcS;simp -implicitDefEqProofs [f183]
  ·unfold gcS;simp -implicitDefEqProofs [f183]
 ·simp -implicitDefEqProofs [f183,LD]
abbrev nOne:Nat:=182
abbrev fOne:FFunc:=f182
abbrev nValid:Nat:=109
abbrev fValid:FFunc:=f109
theorem run_one (n:Nat):CL E0 (n+20) nOne [] []=some (.d (.s 1 [.v (.int .u32 1)]),none):=by
 rw[CL_fn rfl (k182:E0.fn _=_) rfl];simp -implicitDefEqProofs [f182]
theorem LD_one:LD (enc 1)=.s 1 [.v (.int .u32 1)]:=by rw[enc_small (by omega) (by omega)];rfl
def okL (l:List Nat):Bool:=decide (trim l=l)
theorem okL_enc (n:Nat):okL (enc n)=true:=by simp[okL,trim_enc]
theorem okL_iff {l:List Nat}(hl:Lim l):okL l=true↔l=enc (val l):=by
 unfold okL;rw[decide_eq_true_iff,trim_eq_enc hl];exact⟨fun h=>h.symm,fun h=>h.symm⟩
theorem run_properL (m:Nat)(l:List Nat)(hl:l.length<=1000000000):CL E0 (m+30) nProper [.d (LD l)] []=some (.d (.v (.bool (okL l))),none):=by
 rw[CL_fn rfl (k180:E0.fn _=_) rfl];rcases List.eq_nil_or_concat l with h|⟨b,x,h⟩
 ·rw[h];have:okL []=true:=by simp[okL,trim]
  rw[this];simp -implicitDefEqProofs [f180,LD,LL]
 ·rw[List.concat_eq_append]at h;rw[h]at hl ⊢;have hlen:(LL (b++[x])).length=b.length+1:=by simp[LL]
  have hget:(LL (b++[x]))[b.length]?=some (.v (.int .u32 (x:Int))):=by simp[LL]
  have hb:(((b.length:Int)+1)==0)=false:=by simp;omega
  have hw:wrapS .i64 (b.length:Int)=(b.length:Int):=wrap_i64 (by simp at hl;omega);have hok:okL (b++[x])=((x:Int) != 0):=by
   unfold okL
   by_cases hx:x=0
   ·subst hx;rw[trim_zero];have h2:=length_trim b;have h3:¬ trim b=b++[0]:=by
     intro e;rw[e]at h2;simp only[List.length_append,List.length_cons,List.length_nil]at h2;omega
    simp[h3]
   ·rw[trim_last b x hx];simp[hx]
  rw[hok];simp only[LD];generalize LL (b++[x])=es at*;have hget2:=idx hget;simp -implicitDefEqProofs [f180,hlen,hget,hget2,hb,hw]
def raw (s:Bool)(a b:List Nat):D:=.a [.v (.bool s),LD a,LD b]
def validR (s:Bool)(a b:List Nat):Bool :=
 okL a&&okL b&&(if a=[] then !s&&decide (b=[]) else decide (b=[])||(decide (val b≠1)&&decide (Nat.gcd (val a) (val b)=1)))
theorem cmpN_ne {a:Nat}:(cmpN a 1 != 0)=decide (a≠1):=by
 unfold cmpN
 by_cases h:a<1
 ·rw[if_pos h];simp;omega
 ·rw[if_neg h]
  by_cases h2:a=1
  ·simp[h2]
  ·simp[h2]
theorem cmpN_eq {a:Nat}:(cmpN a 1==0)=decide (a=1):=by
 unfold cmpN
 by_cases h:a<1
 ·rw[if_pos h];simp;omega
 ·rw[if_neg h]
  by_cases h2:a=1
  ·simp[h2]
  ·simp[h2]
theorem ca_validR (s:Bool)(a b:List Nat)(la:a.length<=1000000)(lb:b.length<=1000000)(ha:Lim a)(hb:Lim b):Ca E0 nValid [.d (raw s a b)] (.d (.v (.bool (validR s a b))),none):=by
 have p1:=fun m=>run_properL m a (by omega)
 have p2:=fun m=>run_properL m b (by omega)
 have o1:=run_one;unfold validR
 by_cases hoa:okL a=true
 ·by_cases hob:okL b=true
  ·rw[hoa]at p1 ⊢;rw[hob]at p2 ⊢
   by_cases hna:a=[]
   ·subst hna;simp only[raw,LD,LL,List.map_nil]at p1 p2 ⊢
    by_cases hnb:b=[]
    ·subst hnb;refine Ca.ofS (n:=60) ?_;rw[CL_fn rfl (k109:E0.fn _=_) rfl];simp only[List.map_nil]at p2 ⊢;cases s<;>simp -implicitDefEqProofs [f109,p1]
    ·have hlen:((List.map (fun(x:Nat)=>D.v (Value.int IntKind.u32 (x:Int))) b).length==0)=false:=by simp[hnb]
     refine Ca.ofS (n:=60) ?_;rw[CL_fn rfl (k109:E0.fn _=_) rfl];have hlen2:¬ (List.map (fun(x:Nat)=>D.v (Value.int IntKind.u32 (x:Int))) b)=[]:=by simp[hnb]
     generalize List.map (fun(x:Nat)=>D.v (Value.int IntKind.u32 (x:Int))) b=bs at*;cases s<;>simp -implicitDefEqProofs [f109,p1,p2,hnb,hlen,hlen2]
   ·have hla:¬ (LL a)=[]:=by simp[LL,hna]
    by_cases hnb:b=[]
    ·subst hnb;refine Ca.ofS (n:=60) ?_;rw[CL_fn rfl (k109:E0.fn _=_) rfl];simp only[raw,LD]at p1 p2 ⊢;generalize LL a=as' at*;simp only[LL,List.map_nil]at p2 ⊢;simp -implicitDefEqProofs [f109,p1,p2,hna,hla]
    ·have hlb:¬ (LL b)=[]:=by simp[LL,hnb]
     have ea:=(okL_iff ha).1 hoa;have eb:=(okL_iff hb).1 hob;have l1:=enc_length (n:=1) (k:=1) (by omega);have hg:(enc (Nat.gcd (val a) (val b))).length<=1000000:=by
      refine Nat.le_trans (enc_length_mono (m:=Nat.gcd (val a) (val b)) (n:=val b) (Nat.le_of_dvd ?_ (Nat.gcd_dvd_right _ _))) (by rw[<-eb];omega);rcases Nat.eq_zero_or_pos (val b) with h|h
      ·rw[h]at eb;rw[enc_zero]at eb;exact absurd eb hnb
      ·exact h
     obtain⟨n1,c1⟩:=(ca_cmp b (enc 1) (by omega) (by omega) hb (lim_enc _)).any;obtain⟨n2,c2⟩:=(ca_cmp (enc (Nat.gcd (val a) (val b))) (enc 1) (by omega) (by omega) (lim_enc _) (lim_enc _)).any;obtain⟨n3,c3⟩:=(ca_gcd (val a) (val b) (by rw[<-ea];omega) (by rw[<-eb];omega)).any;replace c1:=c1 (n1+n2+n3) (by omega);replace c2:=c2 (n1+n2+n3) (by omega);replace c3:=c3 (n1+n2+n3) (by omega);generalize n1+n2+n3=N at*;simp only[val_enc]at c1 c2;rw[<-ea,<-eb]at c3;rw[LD_one]at c1 c2;have e1:=cmpN_ne (a:=val b);have e2:=cmpN_eq (a:=Nat.gcd (val a) (val b));refine Ca.ofS (n:=N+60) ?_;rw[CL_fn rfl (k109:E0.fn _=_) rfl];rw[if_neg hna];simp only[hnb,decide_false,Bool.false_or,Bool.true_and];rw[<-e1,<-e2];clear e1 e2 ea eb;generalize cmpN (val b) 1=k1,cmpN (Nat.gcd (val a) (val b)) 1=k2 at*;simp only[raw,LD]at p1 p2 c1 c2 c3 ⊢;generalize LL a=as',LL b=bs,LL (enc (Nat.gcd (val a) (val b)))=gs at*;cases hk1:(k1 != 0)
     ·simp -implicitDefEqProofs [f109,p1,p2,hla,hlb,o1,c1,c2,c3,hk1]
     ·simp -implicitDefEqProofs [f109,p1,p2,hla,hlb,o1,c1,c2,c3,hk1]
  ·simp only[Bool.not_eq_true]at hob;rw[hoa]at p1 ⊢;rw[hob]at p2 ⊢;refine Ca.ofS (n:=60) ?_;rw[CL_fn rfl (k109:E0.fn _=_) rfl];simp only[raw,LD]at p1 p2 ⊢;generalize LL a=as',LL b=bs at*;simp -implicitDefEqProofs [f109,p1,p2]
 ·simp only[Bool.not_eq_true]at hoa;rw[hoa]at p1 ⊢;refine Ca.ofS (n:=60) ?_;rw[CL_fn rfl (k109:E0.fn _=_) rfl];simp only[raw,LD]at p1 p2 ⊢;generalize LL a=as',LL b=bs at*;simp -implicitDefEqProofs [f109,p1,p2]
abbrev nOf:Nat:=185
abbrev fOf:FFunc:=f185
abbrev nClone:Nat:=230
abbrev fClone:FFunc:=f230
abbrev nRat:Nat:=187
abbrev fRat:FFunc:=f187
def sz (n:Nat):Nat:=(enc n).length
theorem sz_le {n k:Nat}(h:n<4294967296 ^ k):sz n<=k:=enc_length h
theorem sz_lt (n:Nat):n<4294967296 ^ sz n:=enc_lt n
theorem sz_mono {m n:Nat}(h:m<=n):sz m<=sz n:=enc_length_mono h
theorem sz_mul (a b:Nat):sz (a*b)<=sz a+sz b:=by
 refine sz_le ?_;rw[Nat.pow_add];have h1:=sz_lt a;have h2:=sz_lt b;exact Nat.lt_of_le_of_lt (Nat.mul_le_mul_left a (Nat.le_of_lt h2)) (Nat.mul_lt_mul_of_pos_right h1 (Nat.pow_pos (by omega)))
theorem sz_add (a b:Nat):sz (a+b)<=max (sz a) (sz b)+1:=by
 refine sz_le ?_;rw[Nat.pow_succ];have h1:=Nat.lt_of_lt_of_le (sz_lt a) (Nat.pow_le_pow_right (n:=4294967296) (by omega) (Nat.le_max_left (sz a) (sz b)));have h2:=Nat.lt_of_lt_of_le (sz_lt b) (Nat.pow_le_pow_right (n:=4294967296) (by omega) (Nat.le_max_right (sz a) (sz b)));omega
theorem sz_one:sz 1=1:=by unfold sz;rw[enc_small (by omega) (by omega)];rfl
def fq (s:Bool)(n d:Nat):D:=.a [.v (.bool s),LD (enc n),LD (enc d)]
def qs (x:Rat):Bool:=decide (x.num<0)
def qn (x:Rat):List Nat:=enc x.num.natAbs
def qd (x:Rat):List Nat:=if x.den=1 then [] else enc x.den
def qD (x:Rat):D:=raw (qs x) (qn x) (qd x)
def fqR (x:Rat):D:=fq (qs x) x.num.natAbs x.den
def qz (x:Rat):Nat:=max (sz x.num.natAbs) (sz x.den)
theorem lim_qn (x:Rat):Lim (qn x):=lim_enc _
theorem lim_qd (x:Rat):Lim (qd x):=by
 unfold qd;split
 ·intro y hy;cases hy
 ·exact lim_enc _
theorem len_qn (x:Rat):(qn x).length<=qz x:=Nat.le_max_left _ _
theorem len_qd (x:Rat):(qd x).length<=qz x:=by
 unfold qd;split
 ·simp
 ·exact Nat.le_max_right _ _
theorem validR_qD (x:Rat):validR (qs x) (qn x) (qd x)=true:=by
 have hd:=x.den_nz;have hr:Nat.gcd x.num.natAbs x.den=1:=x.reduced;have ok2:okL (qd x)=true:=by
  unfold qd;split
  ·simp[okL,trim]
  ·exact okL_enc _
 unfold validR;rw[show okL (qn x)=true from okL_enc _,ok2];simp only[Bool.true_and]
 by_cases h0:qn x=[]
 ·rw[if_pos h0];have hz:x.num.natAbs=0:=enc_nil.1 h0;have hz2:x.num=0:=Int.natAbs_eq_zero.1 hz;rw[hz,Nat.gcd_zero_left]at hr;simp[qs,qd,hz2,hr]
 ·rw[if_neg h0];unfold qd;split
  ·simp
  ·rename_i h1;have e1:val (qn x)=x.num.natAbs:=val_enc _;simp[val_enc,e1,hr,h1]
theorem ca_ofq (x:Rat)(hx:qz x<=1000000):Ca E0 nOf [.d (qD x)] (.d (fqR x),none):=by
 obtain⟨N,hv⟩:=(ca_validR (qs x) (qn x) (qd x) (Nat.le_trans (len_qn x) hx) (Nat.le_trans (len_qd x) hx) (lim_qn x) (lim_qd x)).get;rw[validR_qD]at hv;have o1:=run_one;have hn:enc x.num.natAbs=qn x:=rfl;refine Ca.ofS (n:=N+60) ?_;rw[CL_fn rfl (k185:E0.fn _=_) rfl];simp only[qD,fqR,fq,raw,hn];simp only[raw]at hv;generalize qs x=s at*
 by_cases hd:x.den=1
 ·have e:qd x=[]:=if_pos hd;rw[e]at hv ⊢;rw[hd,LD_one];simp only[LD]at hv ⊢;generalize LL (qn x)=ns at*;simp only[LL,List.map_nil]at hv ⊢;simp -implicitDefEqProofs [f185,hv,o1]
 ·have e:qd x=enc x.den:=if_neg hd;have hlen2:¬ LL (enc x.den)=[]:=by
   have:=x.den_nz;simp[LL,enc_nil,this]
  rw[e]at hv ⊢;simp only[LD]at hv ⊢;generalize LL (qn x)=ns,LL (enc x.den)=ds at*;simp -implicitDefEqProofs [f185,hv,hlen2]
theorem run_cloneL (m:Nat)(l:List Nat)(h0:l≠[])(hl:l.length<=100000000):CL E0 (m+30) nClone [.d (LD l)] []=some (.d (LD l),none):=by
 rw[CL_fn rfl (k230:E0.fn _=_) rfl];obtain⟨x,r,rfl⟩:∃ x r,l=x::r:=by cases l with|nil=>exact absurd rfl h0|cons x r=>exact⟨x,r,rfl⟩
 simp only[LD,LL,List.map_cons];have hlen:(List.map (fun(x:Nat)=>D.v (Value.int IntKind.u32 (x:Int))) r).length<=100000000:=by simp at hl ⊢;omega
 have hone:∀ y ∈ List.map (fun(x:Nat)=>D.v (Value.int IntKind.u32 (x:Int))) r,D.one y=true:=by
  intro y hy;obtain⟨z,_,rfl⟩:=List.mem_map.1 hy;rfl
 generalize List.map (fun(x:Nat)=>D.v (Value.int IntKind.u32 (x:Int))) r=es at*;have hm:(es.length+1)*4<=1099511627776:=by omega
 have hm2:(es.length+1)<=1099511627776:=by omega
 simp -implicitDefEqProofs [f230,AObj.view,most,hm,hm2]
def sgI (s:Bool)(n:Nat):Int:=if s then -(n:Int) else n
def mkq (s:Bool)(n d:Nat):Rat:=mkRat (sgI s n) d
theorem natAbs_sgI (s:Bool)(n:Nat):(sgI s n).natAbs=n:=by cases s<;>simp[sgI]
theorem mkq_den {s:Bool}{n d:Nat}(hd:0<d):(mkq s n d).den=d / Nat.gcd n d:=by
 unfold mkq;rw[Rat.den_mkRat,if_neg (by omega),natAbs_sgI,Nat.gcd_comm]
theorem mkq_num {s:Bool}{n d:Nat}(hd:0<d):(mkq s n d).num=sgI s (n / Nat.gcd n d):=by
 unfold mkq;rw[Rat.num_mkRat,if_neg (by omega),natAbs_sgI,Nat.gcd_comm];have hg:Nat.gcd n d ∣ n:=Nat.gcd_dvd_left n d;cases s
 ·simp[sgI]
 ·simp only[sgI,if_true];rw[Int.neg_ediv_of_dvd (by exact_mod_cast hg)];simp
theorem mkq_abs {s:Bool}{n d:Nat}(hd:0<d):(mkq s n d).num.natAbs=n / Nat.gcd n d:=by rw[mkq_num hd,natAbs_sgI]
theorem mkq_qs {s:Bool}{n d:Nat}(hd:0<d):qs (mkq s n d)=if n=0 then false else s:=by
 have hg:0<Nat.gcd n d:=Nat.gcd_pos_of_pos_right n hd;unfold qs;rw[mkq_num hd]
 by_cases h:n=0
 ·subst h;cases s<;>simp[sgI]
 ·rw[if_neg h];have:=Nat.div_pos (Nat.le_of_dvd (by omega) (Nat.gcd_dvd_left n d)) hg;cases s
  ·simp[sgI];omega
  ·simp only[sgI,if_true];simp;omega
theorem mkq_sz {s:Bool}{n d:Nat}(hd:0<d):qz (mkq s n d)<=max (sz n) (sz d):=by
 unfold qz;rw[mkq_abs hd,mkq_den hd];have h1:=sz_mono (Nat.div_le_self n (Nat.gcd n d));have h2:=sz_mono (Nat.div_le_self d (Nat.gcd n d));omega
theorem ca_ratq {s:Bool}{n d:Nat}(ln:sz n<=1000000)(ld:sz d<=1000000)(hd0:0<d):Ca E0 nRat [.d (fq s n d)] (.d (qD (mkq s n d)),none):=by
 have o1:=run_one;unfold qD qn qd;rw[mkq_qs hd0,mkq_abs hd0,mkq_den hd0];unfold sz at ln ld;rcases Nat.eq_zero_or_pos n with rfl|hn0
 ·have e2:d / Nat.gcd 0 d=1:=by rw[Nat.gcd_zero_left];exact Nat.div_self hd0
  rw[e2];refine Ca.ofS (n:=60) ?_;rw[CL_fn rfl (k187:E0.fn _=_) rfl];simp only[fq,raw,Nat.zero_div,enc_zero,if_true,LD,LL,List.map_nil];generalize List.map (fun(x:Nat)=>D.v (Value.int IntKind.u32 (x:Int))) (enc d)=ds at*;simp -implicitDefEqProofs [f187]
 ·rw[if_neg (by omega)];have hg:0<Nat.gcd n d:=Nat.gcd_pos_of_pos_right n hd0;have lg:(enc (Nat.gcd n d)).length<=1000000:=Nat.le_trans (enc_length_mono (Nat.le_of_dvd hd0 (Nat.gcd_dvd_right n d))) ld;obtain⟨n1,c1⟩:=(ca_gcd n d ln ld).any;have l1:=enc_length (n:=1) (k:=1) (by omega);obtain⟨n2,c2⟩:=(ca_cmp (enc (Nat.gcd n d)) (enc 1) (by omega) (by omega) (lim_enc _) (lim_enc _)).any;obtain⟨n3,c3⟩:=(ca_over n (Nat.gcd n d) hg ln lg).any;obtain⟨n4,c4⟩:=(ca_over d (Nat.gcd n d) hg ld lg).any;have ldl:(enc (d / Nat.gcd n d)).length<=1000000:=Nat.le_trans (enc_length_mono (Nat.div_le_self _ _)) ld;obtain⟨n5,c5⟩:=(ca_cmp (enc (d / Nat.gcd n d)) (enc 1) (by omega) (by omega) (lim_enc _) (lim_enc _)).any;replace c1:=c1 (n1+n2+n3+n4+n5) (by omega);replace c2:=c2 (n1+n2+n3+n4+n5) (by omega);replace c3:=c3 (n1+n2+n3+n4+n5) (by omega);replace c4:=c4 (n1+n2+n3+n4+n5) (by omega);replace c5:=c5 (n1+n2+n3+n4+n5) (by omega);generalize n1+n2+n3+n4+n5=N at*;simp only[val_enc]at c2 c5;rw[LD_one]at c2 c5;have k1:=fun m=>run_cloneL m (enc n) (by rw[Ne,enc_nil];omega) (by omega)
  have k2:=fun m=>run_cloneL m (enc d) (by rw[Ne,enc_nil];omega) (by omega)
  have hln:¬ LL (enc n)=[]:=by
   have:¬ n=0:=by omega
   simp[LL,enc_nil,this]
  refine Ca.ofS (n:=N+80) ?_;rw[CL_fn rfl (k187:E0.fn _=_) rfl]
  by_cases h1:Nat.gcd n d=1
  ·have e1:cmpN 1 1=0:=by simp[cmpN]
   rw[h1]at c1 c2 c5 ⊢;rw[Nat.div_one]at c5;rw[Nat.div_one,Nat.div_one];rw[LD_one]at c1 c2;rw[e1]at c2
   by_cases hd1:d=1
   ·have e2:cmpN d 1=0:=by rw[hd1];simp[cmpN]
    rw[e2]at c5;rw[if_pos hd1];simp only[fq,raw,LD]at c1 c2 c5 k1 k2 ⊢;generalize LL (enc n)=ns,LL (enc d)=ds at*;simp only[LL,List.map_nil];simp -implicitDefEqProofs [f187,o1,c1,c2,c5,k1,k2,hln]
   ·have e2:cmpN d 1=1:=by unfold cmpN;rw[if_neg (by omega),if_neg (by omega)]
    rw[e2]at c5;rw[if_neg hd1];simp only[fq,raw,LD]at c1 c2 c5 k1 k2 ⊢;generalize LL (enc n)=ns,LL (enc d)=ds at*;simp -implicitDefEqProofs [f187,o1,c1,c2,c5,k1,k2,hln]
  ·have e1:cmpN (Nat.gcd n d) 1=1:=by unfold cmpN;rw[if_neg (by omega),if_neg h1]
   rw[e1]at c2;have hdv:Nat.gcd n d ∣ d:=Nat.gcd_dvd_right n d;generalize Nat.gcd n d=g at*
   by_cases hd1:d / g=1
   ·have e2:cmpN (d / g) 1=0:=by rw[hd1];simp[cmpN]
    rw[e2]at c5;rw[if_pos hd1];generalize d / g=dd,n / g=nn,n % g=m1,d % g=m2 at*;simp only[fq,raw,LD]at c1 c2 c3 c4 c5 k1 k2 ⊢;generalize LL (enc n)=ns,LL (enc d)=ds,LL (enc g)=gs at*;generalize LL (enc nn)=q1,LL (enc dd)=q2,LL (enc m1)=x1,LL (enc m2)=x2 at*;simp only[LL,List.map_nil];simp -implicitDefEqProofs [f187,o1,c1,c2,c3,c4,c5,k1,k2,hln]
   ·have e2:cmpN (d / g) 1=1:=by
     have:0<d / g:=Nat.div_pos (Nat.le_of_dvd hd0 hdv) hg;unfold cmpN;rw[if_neg (by omega),if_neg hd1]
    rw[e2]at c5;rw[if_neg hd1];generalize d / g=dd,n / g=nn,n % g=m1,d % g=m2 at*;simp only[fq,raw,LD]at c1 c2 c3 c4 c5 k1 k2 ⊢;generalize LL (enc n)=ns,LL (enc d)=ds,LL (enc g)=gs at*;generalize LL (enc nn)=q1,LL (enc dd)=q2,LL (enc m1)=x1,LL (enc m2)=x2 at*;simp -implicitDefEqProofs [f187,o1,c1,c2,c3,c4,c5,k1,k2,hln]
abbrev nFPlus:Nat:=186
abbrev fFPlus:FFunc:=f186
abbrev nNegv:Nat:=232
abbrev fNegv:FFunc:=f232
abbrev nMul:Nat:=116
abbrev fMul:FFunc:=f116
abbrev nAdd:Nat:=114
abbrev fAdd:FFunc:=f114
abbrev nSub:Nat:=191
abbrev fSub:FFunc:=f191
theorem ca_timesN {a b:Nat}(ha:sz a<=1000000)(hb:sz b<=1000000):Ca E0 nTimes [.d (LD (enc a)),.d (LD (enc b))] (.d (LD (enc (a*b))),none):=by
 unfold sz at ha hb;have:=ca_times (enc a) (enc b) (by omega) (by omega) (lim_enc _) (lim_enc _);simpa only[val_enc] using this
theorem ca_plusN {a b:Nat}(ha:sz a<=1000000)(hb:sz b<=1000000):Ca E0 nPlus [.d (LD (enc a)),.d (LD (enc b))] (.d (LD (enc (a+b))),none):=by
 unfold sz at ha hb;have:=ca_plus (enc a) (enc b) (by omega) (by omega) (lim_enc _) (lim_enc _);simpa only[val_enc] using this
theorem ca_minusN {a b:Nat}(ha:sz a<=1000000)(hb:b<=a):Ca E0 nMinus [.d (LD (enc a)),.d (LD (enc b))] (.d (LD (enc (a-b))),none):=by
 unfold sz at ha;have:=ca_minus (enc a) (enc b) (by omega) (enc_length_mono hb) (lim_enc _) (lim_enc _) (by simpa only[val_enc] using hb);simpa only[val_enc] using this
theorem ca_cmpN {a b:Nat}(ha:sz a<=1000000)(hb:sz b<=1000000):Ca E0 nCmp [.d (LD (enc a)),.d (LD (enc b))] (.d (.v (.int .i64 (cmpN a b))),none):=by
 unfold sz at ha hb;have:=ca_cmp (enc a) (enc b) (by omega) (by omega) (lim_enc _) (lim_enc _);simpa only[val_enc] using this
theorem ca_negv (s:Bool)(n d:Nat):Ca E0 nNegv [.d (fq s n d)] (.d (fq (!s) n d),none):=by
 refine Ca.ofS (n:=60) ?_;rw[CL_fn rfl (k232:E0.fn _=_) rfl];simp only[fq,LD];generalize LL (enc n)=ns;generalize LL (enc d)=ds;simp -implicitDefEqProofs [f232]
def sumS (s1:Bool)(a:Nat)(s2:Bool)(b:Nat):Bool:=if s1=s2 then s1 else if b<=a then s1 else s2
def sumN (s1:Bool)(a:Nat)(s2:Bool)(b:Nat):Nat:=if s1=s2 then a+b else if b<=a then a-b else b-a
theorem sumN_sz {s1 s2:Bool}{a b:Nat}:sz (sumN s1 a s2 b)<=max (sz a) (sz b)+1:=by
 unfold sumN;split
 ·exact sz_add a b
 ·split
  ·have:=sz_mono (Nat.sub_le a b);omega
  ·have:=sz_mono (Nat.sub_le b a);omega
theorem sgI_sum (s1 s2:Bool)(a b:Nat):sgI (sumS s1 a s2 b) (sumN s1 a s2 b)=sgI s1 a+sgI s2 b:=by
 unfold sumS sumN
 by_cases h:s1=s2
 ·subst h;simp only[if_true];cases s1<;>simp[sgI]<;>omega
 ·rw[if_neg h,if_neg h]
  by_cases hab:b<=a
  ·rw[if_pos hab,if_pos hab];cases s1<;>cases s2<;>simp_all[sgI]<;>omega
  ·rw[if_neg hab,if_neg hab];cases s1<;>cases s2<;>simp_all[sgI]<;>omega
theorem ca_fplus (s1 s2:Bool){n1 d1 n2 d2:Nat}(h1:sz n1<=200000)(h2:sz d1<=200000)(h3:sz n2<=200000)(h4:sz d2<=200000) :
  Ca E0 nFPlus [.d (fq s1 n1 d1),.d (fq s2 n2 d2)] (.d (fq (sumS s1 (n1*d2) s2 (n2*d1)) (sumN s1 (n1*d2) s2 (n2*d1)) (d1*d2)),none):=by
 have b1:=sz_mul n1 d2;have b2:=sz_mul n2 d1;obtain⟨k1,t1⟩:=(ca_timesN (a:=n1) (b:=d2) (by omega) (by omega)).any;obtain⟨k2,t2⟩:=(ca_timesN (a:=n2) (b:=d1) (by omega) (by omega)).any;obtain⟨k3,t3⟩:=(ca_timesN (a:=d1) (b:=d2) (by omega) (by omega)).any;generalize n1*d2=a,n2*d1=b,d1*d2=d at*;obtain⟨k4,t4⟩:=(ca_plusN (a:=a) (b:=b) (by omega) (by omega)).any;obtain⟨k5,t5⟩:=(ca_cmpN (a:=a) (b:=b) (by omega) (by omega)).any
 by_cases hs:s1=s2
 ·subst hs;replace t1:=t1 (k1+k2+k3+k4) (by omega);replace t2:=t2 (k1+k2+k3+k4) (by omega);replace t3:=t3 (k1+k2+k3+k4) (by omega);replace t4:=t4 (k1+k2+k3+k4) (by omega);generalize k1+k2+k3+k4=N at*;refine Ca.ofS (n:=N+80) ?_;rw[CL_fn rfl (k186:E0.fn _=_) rfl];simp only[fq,sumS,sumN,if_true,LD]at*;generalize LL (enc n1)=x1,LL (enc n2)=x2,LL (enc d1)=x3,LL (enc d2)=x4,LL (enc (a+b))=x5,LL (enc a)=x6,LL (enc b)=x7 at*;generalize LL (enc d)=x8 at*;simp -implicitDefEqProofs [f186,t1,t2,t3,t4]
 ·have hbq:(s1==s2)=false:=by simpa using hs
  by_cases hab:b<=a
  ·obtain⟨k6,t6⟩:=(ca_minusN (a:=a) (b:=b) (by omega) hab).any;replace t1:=t1 (k1+k2+k3+k5+k6) (by omega);replace t2:=t2 (k1+k2+k3+k5+k6) (by omega);replace t3:=t3 (k1+k2+k3+k5+k6) (by omega);replace t5:=t5 (k1+k2+k3+k5+k6) (by omega);replace t6:=t6 (k1+k2+k3+k5+k6) (by omega);generalize k1+k2+k3+k5+k6=N at*;have hc:(0:Int)<=cmpN a b:=by unfold cmpN;rw[if_neg (by omega)];split<;>omega
   refine Ca.ofS (n:=N+80) ?_;rw[CL_fn rfl (k186:E0.fn _=_) rfl];simp only[fq,sumS,sumN,if_neg hs,if_pos hab,LD]at*;generalize cmpN a b=cc,LL (enc n1)=x1,LL (enc n2)=x2,LL (enc d1)=x3,LL (enc d2)=x4,LL (enc (a-b))=x5,LL (enc a)=x6,LL (enc b)=x7 at*;generalize LL (enc d)=x8 at*;simp -implicitDefEqProofs [f186,t1,t2,t3,t5,t6,hbq,hc]
  ·obtain⟨k6,t6⟩:=(ca_minusN (a:=b) (b:=a) (by omega) (by omega)).any;replace t1:=t1 (k1+k2+k3+k5+k6) (by omega);replace t2:=t2 (k1+k2+k3+k5+k6) (by omega);replace t3:=t3 (k1+k2+k3+k5+k6) (by omega);replace t5:=t5 (k1+k2+k3+k5+k6) (by omega);replace t6:=t6 (k1+k2+k3+k5+k6) (by omega);generalize k1+k2+k3+k5+k6=N at*;have hc:cmpN a b=-1:=by unfold cmpN;rw[if_pos (by omega)]
   rw[hc]at t5;refine Ca.ofS (n:=N+80) ?_;rw[CL_fn rfl (k186:E0.fn _=_) rfl];simp only[fq,sumS,sumN,if_neg hs,if_neg hab,LD]at*;generalize LL (enc n1)=x1,LL (enc n2)=x2,LL (enc d1)=x3,LL (enc d2)=x4,LL (enc (b-a))=x5,LL (enc a)=x6,LL (enc b)=x7 at*;generalize LL (enc d)=x8 at*;simp -implicitDefEqProofs [f186,t1,t2,t3,t5,t6,hbq]
theorem sgI_num (x:Rat):sgI (qs x) x.num.natAbs=x.num:=by
 unfold sgI qs
 by_cases h:x.num<0
 ·rw[if_pos (by simpa using h)];omega
 ·rw[if_neg (by simpa using h)];omega
theorem sgI_mul (s1 s2:Bool)(a b:Nat):sgI (s1 != s2) (a*b)=sgI s1 a*sgI s2 b:=by
 cases s1<;>cases s2<;>simp[sgI,Int.neg_mul,Int.mul_neg]
theorem den_pos (x:Rat):0<x.den:=Nat.pos_of_ne_zero x.den_nz
theorem mkq_mul (x y:Rat):mkq (qs x != qs y) (x.num.natAbs*y.num.natAbs) (x.den*y.den)=x*y:=by
 unfold mkq;rw[sgI_mul,sgI_num,sgI_num,Rat.mul_def']
theorem mkq_add (x y:Rat):mkq (sumS (qs x) (x.num.natAbs*y.den) (qs y) (y.num.natAbs*x.den)) (sumN (qs x) (x.num.natAbs*y.den) (qs y) (y.num.natAbs*x.den)) (x.den*y.den)=x+y:=by
 unfold mkq;rw[sgI_sum,Rat.add_def']
 congr 1
 have h:=fun(s:Bool) (a b:Nat)=>show sgI s (a*b)=sgI s a*(b:Int) by cases s<;>simp[sgI,Int.neg_mul]
 rw[h,h,sgI_num,sgI_num]
theorem mkq_sub (x y:Rat):mkq (sumS (qs x) (x.num.natAbs*y.den) (!qs y) (y.num.natAbs*x.den)) (sumN (qs x) (x.num.natAbs*y.den) (!qs y) (y.num.natAbs*x.den)) (x.den*y.den)=x-y:=by
 unfold mkq;rw[sgI_sum,Rat.sub_def']
 congr 1
 have h:=fun(s:Bool) (a b:Nat)=>show sgI s (a*b)=sgI s a*(b:Int) by cases s<;>simp[sgI,Int.neg_mul]
 have h2:=fun(s:Bool) (a:Nat)=>show sgI (!s) a=- sgI s a by cases s<;>simp[sgI]
 rw[h,h,h2,sgI_num,sgI_num,Int.neg_mul];omega
theorem qz_mul (x y:Rat):qz (x*y)<=qz x+qz y:=by
 rw[<-mkq_mul];refine Nat.le_trans (mkq_sz (Nat.mul_pos (den_pos x) (den_pos y))) ?_;have h1:=sz_mul x.num.natAbs y.num.natAbs;have h2:=sz_mul x.den y.den;unfold qz;omega
theorem qz_add (x y:Rat):qz (x+y)<=qz x+qz y+1:=by
 rw[<-mkq_add];refine Nat.le_trans (mkq_sz (Nat.mul_pos (den_pos x) (den_pos y))) ?_;have h1:=sz_mul x.num.natAbs y.den;have h2:=sz_mul y.num.natAbs x.den;have h3:=sz_mul x.den y.den;have h4:=@sumN_sz (qs x) (qs y) (x.num.natAbs*y.den) (y.num.natAbs*x.den);unfold qz;omega
theorem qz_sub (x y:Rat):qz (x-y)<=qz x+qz y+1:=by
 rw[<-mkq_sub];refine Nat.le_trans (mkq_sz (Nat.mul_pos (den_pos x) (den_pos y))) ?_;have h1:=sz_mul x.num.natAbs y.den;have h2:=sz_mul y.num.natAbs x.den;have h3:=sz_mul x.den y.den;have h4:=@sumN_sz (qs x) (!qs y) (x.num.natAbs*y.den) (y.num.natAbs*x.den);unfold qz;omega
theorem ca_mulq (x y:Rat)(hx:qz x<=100000)(hy:qz y<=100000):Ca E0 nMul [.d (qD x),.d (qD y)] (.d (qD (x*y)),none):=by
 obtain⟨k1,t1⟩:=(ca_ofq x (by omega)).any;obtain⟨k2,t2⟩:=(ca_ofq y (by omega)).any;have hx1:sz x.num.natAbs<=100000:=Nat.le_trans (Nat.le_max_left _ _) hx;have hx2:sz x.den<=100000:=Nat.le_trans (Nat.le_max_right _ _) hx;have hy1:sz y.num.natAbs<=100000:=Nat.le_trans (Nat.le_max_left _ _) hy;have hy2:sz y.den<=100000:=Nat.le_trans (Nat.le_max_right _ _) hy;have b1:=sz_mul x.num.natAbs y.num.natAbs;have b2:=sz_mul x.den y.den;obtain⟨k3,t3⟩:=(ca_timesN (a:=x.num.natAbs) (b:=y.num.natAbs) (by omega) (by omega)).any;obtain⟨k4,t4⟩:=(ca_timesN (a:=x.den) (b:=y.den) (by omega) (by omega)).any;obtain⟨k5,t5⟩:=(ca_ratq (s:=qs x != qs y) (n:=x.num.natAbs*y.num.natAbs) (d:=x.den*y.den) (by omega) (by omega) (Nat.mul_pos (den_pos x) (den_pos y))).any;rw[mkq_mul]at t5;replace t1:=t1 (k1+k2+k3+k4+k5) (by omega);replace t2:=t2 (k1+k2+k3+k4+k5) (by omega);replace t3:=t3 (k1+k2+k3+k4+k5) (by omega);replace t4:=t4 (k1+k2+k3+k4+k5) (by omega);replace t5:=t5 (k1+k2+k3+k4+k5) (by omega);generalize k1+k2+k3+k4+k5=N at*;refine Ca.ofS (n:=N+80) ?_;rw[CL_fn rfl (k116:E0.fn _=_) rfl];simp only[fqR,fq]at t1 t2 t3 t4 t5;generalize x.num.natAbs*y.num.natAbs=n,x.den*y.den=d at*;simp only[qD,raw,LD]at*;generalize qs x=s1,qs y=s2,LL (enc x.num.natAbs)=x1,LL (enc y.num.natAbs)=x2,LL (enc x.den)=x3,LL (enc y.den)=x4,LL (qn x)=z1,LL (qn y)=z2,LL (qd x)=z3,LL (qd y)=z4,LL (enc n)=x7,LL (enc d)=x8,LL (qn (x*y))=x9,LL (qd (x*y))=y1,qs (x*y)=sg at*;simp only[bne]at t5;simp -implicitDefEqProofs [f116,t1,t2,t3,t4,t5]
theorem ca_addq (x y:Rat)(hx:qz x<=100000)(hy:qz y<=100000):Ca E0 nAdd [.d (qD x),.d (qD y)] (.d (qD (x+y)),none):=by
 obtain⟨k1,t1⟩:=(ca_ofq x (by omega)).any;obtain⟨k2,t2⟩:=(ca_ofq y (by omega)).any;have hx1:sz x.num.natAbs<=100000:=Nat.le_trans (Nat.le_max_left _ _) hx;have hx2:sz x.den<=100000:=Nat.le_trans (Nat.le_max_right _ _) hx;have hy1:sz y.num.natAbs<=100000:=Nat.le_trans (Nat.le_max_left _ _) hy;have hy2:sz y.den<=100000:=Nat.le_trans (Nat.le_max_right _ _) hy;have b1:=sz_mul x.num.natAbs y.den;have b2:=sz_mul y.num.natAbs x.den;have b3:=sz_mul x.den y.den;have b4:=@sumN_sz (qs x) (qs y) (x.num.natAbs*y.den) (y.num.natAbs*x.den);obtain⟨k3,t3⟩:=(ca_fplus (qs x) (qs y) (n1:=x.num.natAbs) (d1:=x.den) (n2:=y.num.natAbs) (d2:=y.den) (by omega) (by omega) (by omega) (by omega)).any;obtain⟨k5,t5⟩:=(ca_ratq (s:=sumS (qs x) (x.num.natAbs*y.den) (qs y) (y.num.natAbs*x.den)) (n:=sumN (qs x) (x.num.natAbs*y.den) (qs y) (y.num.natAbs*x.den)) (d:=x.den*y.den) (by omega) (by omega) (Nat.mul_pos (den_pos x) (den_pos y))).any;rw[mkq_add]at t5;replace t1:=t1 (k1+k2+k3+k5) (by omega);replace t2:=t2 (k1+k2+k3+k5) (by omega);replace t3:=t3 (k1+k2+k3+k5) (by omega);replace t5:=t5 (k1+k2+k3+k5) (by omega);generalize k1+k2+k3+k5=N,sumN (qs x) (x.num.natAbs*y.den) (qs y) (y.num.natAbs*x.den)=n,sumS (qs x) (x.num.natAbs*y.den) (qs y) (y.num.natAbs*x.den)=ss,x.den*y.den=d at*;refine Ca.ofS (n:=N+80) ?_;rw[CL_fn rfl (k114:E0.fn _=_) rfl];simp only[fqR,fq,qD,raw,LD]at*;generalize qs x=s1,qs y=s2,LL (enc x.num.natAbs)=x1,LL (enc y.num.natAbs)=x2,LL (enc x.den)=x3,LL (enc y.den)=x4,LL (qn x)=z1,LL (qn y)=z2,LL (qd x)=z3,LL (qd y)=z4,LL (enc n)=x7,LL (enc d)=x8,LL (qn (x+y))=x9,LL (qd (x+y))=y1,qs (x+y)=sg at*;simp -implicitDefEqProofs [f114,t1,t2,t3,t5]
theorem ca_subq (x y:Rat)(hx:qz x<=100000)(hy:qz y<=100000):Ca E0 nSub [.d (qD x),.d (qD y)] (.d (qD (x-y)),none):=by
 obtain⟨k1,t1⟩:=(ca_ofq x (by omega)).any;obtain⟨k2,t2⟩:=(ca_ofq y (by omega)).any;have hx1:sz x.num.natAbs<=100000:=Nat.le_trans (Nat.le_max_left _ _) hx;have hx2:sz x.den<=100000:=Nat.le_trans (Nat.le_max_right _ _) hx;have hy1:sz y.num.natAbs<=100000:=Nat.le_trans (Nat.le_max_left _ _) hy;have hy2:sz y.den<=100000:=Nat.le_trans (Nat.le_max_right _ _) hy;have b1:=sz_mul x.num.natAbs y.den;have b2:=sz_mul y.num.natAbs x.den;have b3:=sz_mul x.den y.den;have b4:=@sumN_sz (qs x) (!qs y) (x.num.natAbs*y.den) (y.num.natAbs*x.den);obtain⟨k3,t3⟩:=(ca_fplus (qs x) (!qs y) (n1:=x.num.natAbs) (d1:=x.den) (n2:=y.num.natAbs) (d2:=y.den) (by omega) (by omega) (by omega) (by omega)).any;obtain⟨k4,t4⟩:=(ca_negv (qs y) y.num.natAbs y.den).any;obtain⟨k5,t5⟩:=(ca_ratq (s:=sumS (qs x) (x.num.natAbs*y.den) (!qs y) (y.num.natAbs*x.den)) (n:=sumN (qs x) (x.num.natAbs*y.den) (!qs y) (y.num.natAbs*x.den)) (d:=x.den*y.den) (by omega) (by omega) (Nat.mul_pos (den_pos x) (den_pos y))).any;rw[mkq_sub]at t5;replace t1:=t1 (k1+k2+k3+k4+k5) (by omega);replace t2:=t2 (k1+k2+k3+k4+k5) (by omega);replace t3:=t3 (k1+k2+k3+k4+k5) (by omega);replace t4:=t4 (k1+k2+k3+k4+k5) (by omega);replace t5:=t5 (k1+k2+k3+k4+k5) (by omega);generalize k1+k2+k3+k4+k5=N,sumN (qs x) (x.num.natAbs*y.den) (!qs y) (y.num.natAbs*x.den)=n,sumS (qs x) (x.num.natAbs*y.den) (!qs y) (y.num.natAbs*x.den)=ss,x.den*y.den=d at*;refine Ca.ofS (n:=N+80) ?_;rw[CL_fn rfl (k191:E0.fn _=_) rfl];simp only[fqR,fq,qD,raw,LD]at*;generalize (!qs y)=s3,qs x=s1 at*;generalize qs y=s2,LL (enc x.num.natAbs)=x1,LL (enc y.num.natAbs)=x2,LL (enc x.den)=x3,LL (enc y.den)=x4,LL (qn x)=z1,LL (qn y)=z2,LL (qd x)=z3,LL (qd y)=z4,LL (enc n)=x7,LL (enc d)=x8,LL (qn (x-y))=x9,LL (qd (x-y))=y1,qs (x-y)=sg at*;simp -implicitDefEqProofs [f191,t1,t2,t3,t4,t5]
theorem ca_signq (x:Rat)(hx:qz x<=1000000):Ca E0 134 [.d (qD x)] (.d (.v (.int .i64 x.num.sign)),none):=by
 obtain⟨N,t⟩:=(ca_ofq x hx).get;refine Ca.ofS (n:=N+60) ?_;rw[CL_fn rfl (k134:E0.fn _=_) rfl];simp only[fqR,fq,qD,raw,LD]at*;have hq:enc x.num.natAbs=qn x:=rfl;rw[hq]at t;have hs:(LL (qn x)=[]/\x.num.sign=0)\/(LL (qn x)≠[]/\qs x=true/\x.num.sign=-1)\/(LL (qn x)≠[]/\qs x=false/\x.num.sign=1):=by
  have hnil:LL (qn x)=[]↔x.num.natAbs=0:=by simp only[LL,List.map_eq_nil_iff];exact enc_nil
  rw[Ne,hnil];rcases Int.lt_trichotomy x.num 0 with h|h|h
  ·exact .inr (.inl ⟨by omega,decide_eq_true h,Int.sign_eq_neg_one_of_neg h⟩)
  ·exact .inl ⟨by omega,by rw[h];rfl⟩
  ·exact .inr (.inr ⟨by omega,decide_eq_false (by omega),Int.sign_eq_one_of_pos h⟩)
 generalize LL (qn x)=z1,LL (qd x)=z3,LL (enc x.den)=x3,qs x=s at*;rcases hs with ⟨a,b⟩|⟨a,b,c⟩|⟨a,b,c⟩
 ·rw[b];subst a;simp -implicitDefEqProofs [f134,t]
 ·rw[c];subst b;simp -implicitDefEqProofs [f134,t,a]
 ·rw[c];subst b;simp -implicitDefEqProofs [f134,t,a]
theorem ca_compareq (x y:Rat)(hx:qz x<=100000)(hy:qz y<=100000):Ca E0 135 [.d (qD x),.d (qD y)] (.d (.v (.int .i64 (x-y).num.sign)),none):=by
 obtain⟨k1,t1⟩:=(ca_subq x y hx hy).any;have:=qz_sub x y;obtain⟨k2,t2⟩:=(ca_signq (x-y) (by omega)).any;replace t1:=t1 (k1+k2) (by omega);replace t2:=t2 (k1+k2) (by omega);generalize k1+k2=N at*;refine Ca.ofS (n:=N+80) ?_;rw[CL_fn rfl (k135:E0.fn _=_) rfl];generalize (x-y).num.sign=res at*;simp only[qD,raw,LD]at*;generalize LL (qn x)=z1,LL (qn y)=z2,LL (qd x)=z3,LL (qd y)=z4,LL (qn (x-y))=x9,LL (qd (x-y))=y1 at*;simp -implicitDefEqProofs [f135,t1,t2]
theorem mkq_self (x:Rat):mkq (qs x) x.num.natAbs x.den=x:=by
 unfold mkq;rw[sgI_num,Rat.mkRat_self]
theorem mkq_neg (x:Rat):mkq (!qs x) x.num.natAbs x.den=-x:=by
 have h2:=fun(s:Bool) (a:Nat)=>show sgI (!s) a=- sgI s a by cases s<;>simp[sgI]
 unfold mkq;rw[h2,sgI_num,<-Rat.neg_mkRat,Rat.mkRat_self]
theorem mkq_abs' (x:Rat):mkq false x.num.natAbs x.den=x.abs:=by
 by_cases h:x.num<0
 ·have hq:qs x=true:=by simp[qs,h]
  have:=mkq_neg x;rw[hq]at this;simp only[Bool.not_true]at this;have hle:x<=0:=(Rat.le_total (a:=0) (b:=x)).resolve_left (fun e=>by have:=Rat.num_nonneg.2 e;omega);rw[this,Rat.abs_of_nonpos hle]
 ·have hq:qs x=false:=decide_eq_false (by omega);have:=mkq_self x;rw[hq]at this;rw[this,Rat.abs_of_nonneg (Rat.num_nonneg.1 (by omega))]
theorem ca_negq (x:Rat)(hx:qz x<=1000000):Ca E0 212 [.d (qD x)] (.d (qD (-x)),none):=by
 obtain⟨k1,t1⟩:=(ca_ofq x hx).any;obtain⟨k2,t2⟩:=(ca_negv (qs x) x.num.natAbs x.den).any;have hx1:sz x.num.natAbs<=1000000:=Nat.le_trans (Nat.le_max_left _ _) hx;have hx2:sz x.den<=1000000:=Nat.le_trans (Nat.le_max_right _ _) hx;obtain⟨k3,t3⟩:=(ca_ratq (s := !qs x) (n:=x.num.natAbs) (d:=x.den) hx1 hx2 (den_pos x)).any;rw[mkq_neg]at t3;replace t1:=t1 (k1+k2+k3) (by omega);replace t2:=t2 (k1+k2+k3) (by omega);replace t3:=t3 (k1+k2+k3) (by omega);generalize k1+k2+k3=N at*;refine Ca.ofS (n:=N+80) ?_;rw[CL_fn rfl (k212:E0.fn _=_) rfl];simp only[fqR,fq,qD,raw,LD]at*;generalize (!qs x)=s3 at*;generalize qs x=s1,LL (enc x.num.natAbs)=x1,LL (enc x.den)=x3,LL (qn x)=z1,LL (qd x)=z3,LL (qn (-x))=x9,LL (qd (-x))=y1,qs (-x)=sg at*;simp -implicitDefEqProofs [f212,t1,t2,t3]
theorem ca_absq (x:Rat)(hx:qz x<=1000000):Ca E0 189 [.d (qD x)] (.d (qD x.abs),none):=by
 obtain⟨k1,t1⟩:=(ca_ofq x hx).any;have hx1:sz x.num.natAbs<=1000000:=Nat.le_trans (Nat.le_max_left _ _) hx;have hx2:sz x.den<=1000000:=Nat.le_trans (Nat.le_max_right _ _) hx;obtain⟨k3,t3⟩:=(ca_ratq (s:=false) (n:=x.num.natAbs) (d:=x.den) hx1 hx2 (den_pos x)).any;rw[mkq_abs']at t3;replace t1:=t1 (k1+k3) (by omega);replace t3:=t3 (k1+k3) (by omega);generalize k1+k3=N at*;refine Ca.ofS (n:=N+80) ?_;rw[CL_fn rfl (k189:E0.fn _=_) rfl];simp only[fqR,fq,qD,raw,LD]at*;generalize qs x=s1,LL (enc x.num.natAbs)=x1,LL (enc x.den)=x3,LL (qn x)=z1,LL (qd x)=z3 at*;generalize LL (qn x.abs)=x9,LL (qd x.abs)=y1,qs x.abs=sg at*;simp -implicitDefEqProofs [f189,t1,t3]
theorem mkq_div (x y:Rat)(hy:y≠0):mkq (qs x != qs y) (x.num.natAbs*y.den) (x.den*y.num.natAbs)=x / y:=by
 have hyn:y.num≠0:=fun h=>hy (Rat.num_eq_zero.1 h)
 have e1:sgI (qs x != qs y) (x.num.natAbs*y.den)=x.num*(y.den*y.num.sign):=by
  have h:=sgI_mul (qs x) (qs y) x.num.natAbs y.den;rw[h,sgI_num]
  congr 1
  rcases Int.lt_trichotomy y.num 0 with h|h|h
  ·rw[show qs y=true from decide_eq_true h,Int.sign_eq_neg_one_of_neg h];simp[sgI]
  ·exact absurd h hyn
  ·rw[show qs y=false from decide_eq_false (by omega),Int.sign_eq_one_of_pos h];simp[sgI]
 have e2:((x.den*y.num.natAbs:Nat):Int)=x.den*(y.num*y.num.sign):=by
  rw[Int.mul_sign_self];simp
 have hs:((y.num.sign:Int):Rat)≠0:=by
  intro e;have:y.num.sign=0:=by exact_mod_cast e
  exact hyn (Int.sign_eq_zero_iff_zero.1 this)
 have hxd:((x.den:Int):Rat)≠0:=by have:=x.den_nz;exact_mod_cast this
 have hyd:((y.den:Int):Rat)≠0:=by have:=y.den_nz;exact_mod_cast this
 have hyn':((y.num:Int):Rat)≠0:=by exact_mod_cast hyn
 have hx:x=(x.num:Rat) / ((x.den:Int):Rat):=by
  conv=>lhs;rw[<-Rat.mkRat_self x,Rat.mkRat_eq_div]
  rfl
 have hy':y=(y.num:Rat) / ((y.den:Int):Rat):=by
  conv=>lhs;rw[<-Rat.mkRat_self y,Rat.mkRat_eq_div]
  rfl
 unfold mkq;rw[Rat.mkRat_eq_div,e1];have e3:(((x.den*y.num.natAbs:Nat)):Rat)=((x.den*(y.num*y.num.sign):Int):Rat):=by rw[<-e2];rfl
 rw[e3];simp only[Rat.intCast_mul]
 conv=>rhs;rw[hx,hy']
 generalize ((y.num.sign:Int):Rat)=a at*;generalize ((x.den:Int):Rat)=b at*;generalize ((y.den:Int):Rat)=c at*;generalize ((y.num:Int):Rat)=d at*;generalize ((x.num:Int):Rat)=e at*;grind
theorem qz_neg (x:Rat):qz (-x)=qz x:=by simp[qz]
theorem qz_div (x y:Rat)(hy:y≠0):qz (x / y)<=qz x+qz y:=by
 rw[<-mkq_div x y hy];have hyn:y.num.natAbs≠0:=fun h=>hy (Rat.num_eq_zero.1 (Int.natAbs_eq_zero.1 h))
 refine Nat.le_trans (mkq_sz (Nat.mul_pos (den_pos x) (by omega))) ?_;have h1:=sz_mul x.num.natAbs y.den;have h2:=sz_mul x.den y.num.natAbs;unfold qz;omega
theorem qz_abs (x:Rat):qz x.abs<=qz x:=by
 rw[<-mkq_abs' x];exact mkq_sz (den_pos x)
theorem ca_divq (x y:Rat)(hx:qz x<=100000)(hy:qz y<=100000)(h0:y≠0):Ca E0 190 [.d (qD x),.d (qD y)] (.d (.t [qD (x / y),.v (.int .i64 0)]),none):=by
 have hyn:y.num.natAbs≠0:=fun h=>h0 (Rat.num_eq_zero.1 (Int.natAbs_eq_zero.1 h))
 obtain⟨k1,t1⟩:=(ca_ofq x (by omega)).any;obtain⟨k2,t2⟩:=(ca_ofq y (by omega)).any;have hx1:sz x.num.natAbs<=100000:=Nat.le_trans (Nat.le_max_left _ _) hx;have hx2:sz x.den<=100000:=Nat.le_trans (Nat.le_max_right _ _) hx;have hy1:sz y.num.natAbs<=100000:=Nat.le_trans (Nat.le_max_left _ _) hy;have hy2:sz y.den<=100000:=Nat.le_trans (Nat.le_max_right _ _) hy;have b1:=sz_mul x.num.natAbs y.den;have b2:=sz_mul x.den y.num.natAbs;obtain⟨k3,t3⟩:=(ca_timesN (a:=x.num.natAbs) (b:=y.den) (by omega) (by omega)).any;obtain⟨k4,t4⟩:=(ca_timesN (a:=x.den) (b:=y.num.natAbs) (by omega) (by omega)).any;obtain⟨k5,t5⟩:=(ca_ratq (s:=qs x != qs y) (n:=x.num.natAbs*y.den) (d:=x.den*y.num.natAbs) (by omega) (by omega) (Nat.mul_pos (den_pos x) (by omega))).any;rw[mkq_div x y h0]at t5;replace t1:=t1 (k1+k2+k3+k4+k5) (by omega);replace t2:=t2 (k1+k2+k3+k4+k5) (by omega);replace t3:=t3 (k1+k2+k3+k4+k5) (by omega);replace t4:=t4 (k1+k2+k3+k4+k5) (by omega);replace t5:=t5 (k1+k2+k3+k4+k5) (by omega);generalize k1+k2+k3+k4+k5=N at*;refine Ca.ofS (n:=N+80) ?_;rw[CL_fn rfl (k190:E0.fn _=_) rfl];have hlen:¬ LL (enc y.num.natAbs)=[]:=by simp only[LL,List.map_eq_nil_iff,enc_nil];exact hyn
 simp only[fqR,fq]at t1 t2 t3 t4 t5;generalize x.num.natAbs*y.den=n,x.den*y.num.natAbs=d at*;simp only[qD,raw,LD]at*;generalize qs x=s1,qs y=s2,LL (enc x.num.natAbs)=x1,LL (enc y.num.natAbs)=x2,LL (enc x.den)=x3,LL (enc y.den)=x4,LL (qn x)=z1,LL (qn y)=z2,LL (qd x)=z3,LL (qd y)=z4,LL (enc n)=x7,LL (enc d)=x8,LL (qn (x / y))=x9,LL (qd (x / y))=y1,qs (x / y)=sg at*;simp only[bne]at t5;simp -implicitDefEqProofs [f190,mkT,t1,t2,t3,t4,t5,hlen]
theorem two_enc {n:Nat}(h:n<18446744073709551616):trim [n % 4294967296,n / 4294967296]=enc n:=by
 rw[trim_eq_enc (by intro y hy;simp at hy;omega)]
 congr 1
 simp[val];omega
theorem ca_whole (v:Int)(hv:-9223372036854775808<=v/\v<9223372036854775808):Ca E0 227 [.d (.v (.int .i64 v))] (.d (.t [.v (.bool (decide (v<0))),LD (enc v.natAbs)]),none):=by
 obtain⟨n0,hc⟩:=(ca_clean [v.natAbs % 4294967296,v.natAbs / 4294967296] (by simp)).get;rw[two_enc (by omega)]at hc;have hn:v.natAbs<18446744073709551616:=by omega
 refine Ca.ofS (n:=n0+60) ?_;rw[CL_fn rfl (k227:E0.fn _=_) rfl];have w2:wrapS .u32 (v.natAbs:Int)=((v.natAbs % 4294967296:Nat):Int):=by rw[wrap_u32_mod];omega
 have w3:Int.fdiv (v.natAbs:Int) 4294967296=((v.natAbs / 4294967296:Nat):Int):=by
  rw[Int.fdiv_eq_ediv_of_nonneg _ (by omega)];omega
 have w4:wrapS .u32 ((v.natAbs / 4294967296:Nat):Int)=((v.natAbs / 4294967296:Nat):Int):=wrap_u32 (by omega);have hl:(LL (enc v.natAbs))=LL (enc v.natAbs):=rfl;simp only[LD,LL,List.map_cons,List.map_nil]at hc ⊢;generalize List.map (fun(x:Nat)=>D.v (Value.int IntKind.u32 (x:Int))) (enc v.natAbs)=res at*
 by_cases h:v<0
 ·have w1:wrapS .u64 v=v+18446744073709551616:=by rw[wrap_u64_mod];omega
  have w5:IntKind.wrap .u64 (-(v+18446744073709551616))=(v.natAbs:Int):=by rw[<-wrapS_eq,wrap_u64_mod];omega
  have hd:decide (v<0)=true:=decide_eq_true h;rw[hd];generalize v.natAbs / 4294967296=hi,v.natAbs % 4294967296=lo at*;generalize v.natAbs=va at*;simp -implicitDefEqProofs [IntKind.bits,f227,mkT,h,w1,w2,w3,w4,w5,hc]
 ·have w1:wrapS .u64 v=(v.natAbs:Int):=by rw[wrap_u64_mod];omega
  have hd:decide (v<0)=false:=decide_eq_false h;rw[hd];generalize v.natAbs / 4294967296=hi,v.natAbs % 4294967296=lo at*;generalize v.natAbs=va at*;simp -implicitDefEqProofs [IntKind.bits,f227,mkT,h,w1,w2,w3,w4,hc]
def ofI (a b:Int):Rat:=mkq (decide (a<0) != decide (b<0)) a.natAbs b.natAbs
theorem sz_int {v:Int}(hv:-9223372036854775808<=v/\v<9223372036854775808):sz v.natAbs<=2:=sz_le (k:=2) (by
 have:(4294967296:Nat) ^ 2=18446744073709551616:=by rfl
 omega)
theorem ca_make (a b:Int)(ha:-9223372036854775808<=a/\a<9223372036854775808)(hb:-9223372036854775808<=b/\b<9223372036854775808)(h0:b≠0) :
  Ca E0 184 [.d (.v (.int .i64 a)),.d (.v (.int .i64 b))] (.d (.t [qD (ofI a b),.v (.int .i64 0)]),none):=by
 have l1:=sz_int ha;have l2:=sz_int hb;obtain⟨k1,t1⟩:=(ca_whole a ha).any;obtain⟨k2,t2⟩:=(ca_whole b hb).any;obtain⟨k3,t3⟩:=(ca_ratq (s:=decide (a<0) != decide (b<0)) (n:=a.natAbs) (d:=b.natAbs) (by omega) (by omega) (by omega)).any;have e:mkq (decide (a<0) != decide (b<0)) a.natAbs b.natAbs=ofI a b:=rfl;rw[e]at t3;replace t1:=t1 (k1+k2+k3) (by omega);replace t2:=t2 (k1+k2+k3) (by omega);replace t3:=t3 (k1+k2+k3) (by omega);generalize k1+k2+k3=N at*;refine Ca.ofS (n:=N+80) ?_;rw[CL_fn rfl (k184:E0.fn _=_) rfl];have hb0:(b==0)=false:=by simpa using h0
 simp only[fq,qD,raw,LD]at*;generalize LL (qn (ofI a b))=x9,LL (qd (ofI a b))=y1,qs (ofI a b)=sg,LL (enc a.natAbs)=x1,LL (enc b.natAbs)=x2,decide (a<0)=s1,decide (b<0)=s2 at*;simp only[bne]at t3;simp -implicitDefEqProofs [f184,mkT,t1,t2,t3,hb0]
theorem ofI_eq (a b:Int)(h0:b≠0):ofI a b=(a:Rat) / (b:Rat):=by
 have h:∀ v:Int,qs ((v:Int):Rat)=decide (v<0)/\((v:Int):Rat).num=v/\((v:Int):Rat).den=1:=fun v=>⟨by unfold qs;rfl,rfl,rfl⟩
 have hb:((b:Int):Rat)≠0:=by exact_mod_cast h0
 rw[<-mkq_div _ _ hb,(h a).1,(h b).1,(h a).2.1,(h a).2.2,(h b).2.1,(h b).2.2];simp[ofI]
end Fi.S
