/- Stars; SemiringStarSolves: its body. -/
import Derived.Test.YtonmcbnjifeagaaGreatDoorCP
set_option linter.unusedVariables false
set_option linter.unusedSimpArgs false
noncomputable section
namespace Fi.S
open Go Fi
set_option maxHeartbeats 1000000
section
def Pv (l:List Ent):Prop:=∃ S,1<=S/\PV S l
theorem PV.pv {S:Nat}{l:List Ent}(h:PV S l):Pv l:=⟨S+1,by omega,h.mono (by omega)⟩
theorem Pv.two {a b:List Ent}(ha:Pv a)(hb:Pv b):∃ S,1<=S/\PV S a/\PV S b:=by
 obtain⟨S,h1,h2⟩:=ha;obtain⟨T,g1,g2⟩:=hb;exact⟨S+T,by omega,h2.mono (by omega),g2.mono (by omega)⟩
theorem Pv.add {a b:List Ent}(ha:Pv a)(hb:Pv b):Pv (addP a b):=by
 obtain⟨S,h,ha,hb⟩:=ha.two hb;exact(addP_pv2 h h ha hb).pv
theorem Pv.mul {a b:List Ent}(ha:Pv a)(hb:Pv b):Pv (mulP a b):=by
 obtain⟨S,h,ha,hb⟩:=ha.two hb;exact(mulP_pv h ha hb).pv
theorem Pv.const (x:Rat):Pv (constP x):=(constP_pv (Nat.le_refl _)).pv
theorem Pv.ext {a b:List Ent}(ha:Pv a)(hb:Pv b)(h:∀ e,tot a e=tot b e):a=b:=by
 obtain⟨S,_,ha,hb⟩:=ha.two hb;exact PV.ext ha hb h
theorem Pv.comm {a b:List Ent}(ha:Pv a)(hb:Pv b):mulP a b=mulP b a:=by
 obtain⟨S,h,ha,hb⟩:=ha.two hb;exact mulP_comm h ha hb
theorem Pv.assoc {a b c:List Ent}(ha:Pv a)(hb:Pv b)(hc:Pv c):mulP (mulP a b) c=mulP a (mulP b c):=by
 obtain⟨S,h,ha,hb⟩:=ha.two hb;obtain⟨T,g,hc⟩:=hc;exact mulP_assoc (S:=S+T) (by omega) (ha.mono (by omega)) (hb.mono (by omega)) (hc.mono (by omega))
theorem Pv.dist {a b c:List Ent}(ha:Pv a)(hb:Pv b)(hc:Pv c):mulP a (addP b c)=addP (mulP a b) (mulP a c):=by
 obtain⟨S,h,ha,hb⟩:=ha.two hb;obtain⟨T,g,hc⟩:=hc;exact mulP_add (S:=S+T) (by omega) (ha.mono (by omega)) (hb.mono (by omega)) (hc.mono (by omega))
theorem tot_const (x:Rat)(e:Ex3):tot (constP x) e=if e=(0,0,0) then x else 0:=by
 unfold constP
 by_cases h:x=0
 ·rw[if_pos h,h];simp[tot]
 ·rw[if_neg h];simp only[tot]
  by_cases h2:e=(0,0,0)
  ·subst h2;simp;grind
  ·rw[if_neg (fun h3=>h2 h3.symm),if_neg h2];grind
theorem tot_scale (x:Rat){a:List Ent}(ha:Pv a)(e:Ex3):tot (mulP (constP x) a) e=x*tot a e:=by
 obtain⟨S,_,ha⟩:=ha;rw[mulP_cv];have h0:(if fitsE e=true then tot a e else 0)=tot a e:=by
  split
  ·rfl
  ·rename_i hf;exact(tot_not fun p hp hpe=>hf (by rw[<-hpe];exact ha.fits p hp)).symm
 have hc:cv (constP x) (tot a) e=x*tot a e:=by
  unfold constP
  by_cases h:x=0
  ·rw[if_pos h,h];simp only[cv];grind
  ·rw[if_neg h];have h3:((e.1-0,e.2.1-0,e.2.2-0):Ex3)=e:=by
    obtain⟨x,y,z⟩:=e;simp
   simp only[cv,h3];grind
 rw[hc,<-h0];split<;>grind
def lowP (p:List Ent):Rat:=tot p (0,0,0)
def restP (p:List Ent):List Ent:=addP p (constP (-lowP p))
def stepP (p:List Ent)(t:Rat):List Ent:=mulP (restP p) (constP t)
def pwP (t:Rat)(n:List Ent):Nat->List Ent
 | 0=>constP t
 | k+1=>mulP (pwP t n k) n
def soP (t:Rat)(n:List Ent):Nat->List Ent
 | 0=>constP t
 | k+1=>addP (soP t n k) (pwP t n (k+1))
def starT (p:List Ent):Rat:=1 / (1-lowP p)
def starP (p:List Ent):List Ent:=soP (starT p) (stepP p (starT p)) 6
theorem rest_tot (p:List Ent)(e:Ex3):tot (restP p) e=if e=(0,0,0) then 0 else tot p e:=by
 unfold restP;rw[addP_tot,tot_const]
 by_cases h:e=(0,0,0)
 ·subst h;simp only[if_true,lowP];grind
 ·simp only[if_neg h];grind
section law
variable {p:List Ent} (hp:Pv p)
include hp
theorem rest_pv:Pv (restP p):=hp.add (Pv.const _)
theorem step_pv (t:Rat):Pv (stepP p t):=(rest_pv hp).mul (Pv.const _)
theorem pw_pv (t:Rat):∀ k,Pv (pwP t (stepP p t) k)
 | 0=>Pv.const _
 | k+1=>(pw_pv t k).mul (step_pv hp t)
theorem so_pv (t:Rat):∀ k,Pv (soP t (stepP p t) k)
 | 0=>Pv.const _
 | k+1=>(so_pv t k).add (pw_pv hp t (k+1))
theorem mul_low {x:List Ent}(hx:Pv x)(e:Ex3):tot (mulP p x) e=lowP p*tot x e+tot (mulP (restP p) x) e:=by
 have h1:p=addP (constP (lowP p)) (restP p):=hp.ext ((Pv.const _).add (rest_pv hp)) fun e=>by
  rw[addP_tot,tot_const,rest_tot]
  by_cases h:e=(0,0,0)
  ·subst h;simp only[if_true,lowP];grind
  ·simp only[if_neg h];grind
 have h2:mulP p x=addP (mulP (constP (lowP p)) x) (mulP (restP p) x):=by
  rw[Pv.comm hp hx]
  conv=>lhs;rw[h1]
  rw[Pv.dist hx (Pv.const _) (rest_pv hp),Pv.comm hx (Pv.const _),Pv.comm hx (rest_pv hp)]
 rw[h2,addP_tot,tot_scale _ hx]
theorem pw_tot (t:Rat)(k:Nat)(e:Ex3):tot (pwP t (stepP p t) (k+1)) e=t*tot (mulP (restP p) (pwP t (stepP p t) k)) e:=by
 have h0:=pw_pv hp t k;have h1:pwP t (stepP p t) (k+1)=mulP (constP t) (mulP (restP p) (pwP t (stepP p t) k)):=by
  show mulP (pwP t (stepP p t) k) (mulP (restP p) (constP t))=_;rw[<-Pv.assoc h0 (rest_pv hp) (Pv.const _),Pv.comm (h0.mul (rest_pv hp)) (Pv.const _),Pv.comm h0 (rest_pv hp)]
 rw[h1,tot_scale _ ((rest_pv hp).mul h0)]
theorem star_ind (hc:lowP p≠1):∀ k e,tot (constP 1) e+tot (mulP p (soP (starT p) (stepP p (starT p)) k)) e=tot (soP (starT p) (stepP p (starT p)) k) e+tot (mulP (restP p) (pwP (starT p) (stepP p (starT p)) k)) e:=by
 have ht:starT p*(1-lowP p)=1:=by
  unfold starT;rw[Rat.div_def,Rat.one_mul];exact Rat.inv_mul_cancel _ (by grind)
 intro k
 induction k with
 | zero =>
  intro e;rw[mul_low hp (so_pv hp _ 0)];show tot (constP 1) e+(lowP p*tot (constP (starT p)) e+tot (mulP (restP p) (constP (starT p))) e)=tot (constP (starT p)) e+tot (mulP (restP p) (constP (starT p))) e;simp only[tot_const];split<;>grind
 | succ k ih =>
  intro e;have h1:=ih e;have h2:=pw_tot hp (starT p) k e;have hs:soP (starT p) (stepP p (starT p)) (k+1)=addP (soP (starT p) (stepP p (starT p)) k) (pwP (starT p) (stepP p (starT p)) (k+1)):=rfl;have hd:=congrArg (fun l=>tot l e) (Pv.dist hp (so_pv hp (starT p) k) (pw_pv hp (starT p) (k+1)));simp only[addP_tot]at hd;have hm:=mul_low hp (pw_pv hp (starT p) (k+1)) e;rw[hs,hd,addP_tot,hm];generalize tot (mulP (restP p) (pwP (starT p) (stepP p (starT p)) (k+1))) e=x1,tot (pwP (starT p) (stepP p (starT p)) (k+1)) e=x2,tot (mulP (restP p) (pwP (starT p) (stepP p (starT p)) k)) e=x3,tot (mulP p (soP (starT p) (stepP p (starT p)) k)) e=x4,tot (soP (starT p) (stepP p (starT p)) k) e=x5,tot (constP 1) e=x6 at*;generalize starT p=t,lowP p=c at*;have h3:t*x3*(1-c)=x3:=by
   have:t*x3*(1-c)=x3*(t*(1-c)):=by grind
   rw[this,ht];grind
  rw[h2];grind
end law
def Dg (k:Int)(l:List Ent):Prop:=∀ p ∈ l,k<=p.1.1+p.1.2.1+p.1.2.2
theorem mem_tot {a:List Ent}(ha:Pv a){p:Ent}(hp:p ∈ a):tot a p.1≠0:=by
 obtain⟨S,_,ha⟩:=ha;rw[tot_mem (srt_keys ha.srt) hp];exact ha.nz p hp
theorem Dg.mul {j k:Int}{a b:List Ent}(ha:Pv a)(hb:Pv b)(h1:Dg j a)(h2:Dg k b):Dg (j+k) (mulP a b):=by
 intro p hp;have h:=mem_tot (ha.mul hb) hp;rw[mulP_tot]at h
 by_cases he:∃ x ∈ prodE a b,x.1=p.1
 ·obtain⟨x,hx,hxe⟩:=he;obtain⟨y,hy,hx⟩:=List.mem_flatMap.1 hx;obtain⟨z,hz,rfl⟩:=List.mem_map.1 (List.mem_filter.1 hx).1;have g1:=h1 y hy;have g2:=h2 z hz;rw[<-hxe];simp only[addE];omega
 ·exact absurd (tot_not fun x hx hxe=>he ⟨x,hx,hxe⟩) h
theorem Dg.const (x:Rat):Dg 0 (constP x):=by
 intro p hp;unfold constP at hp;split at hp
 ·cases hp
 ·rw[List.mem_singleton]at hp;subst hp;simp
theorem Dg.rest {p:List Ent}(hp:Pv p):Dg 1 (restP p):=by
 intro x hx;have h1:=mem_tot (rest_pv hp) hx;rw[rest_tot]at h1;obtain⟨S,_,hr⟩:=rest_pv hp;have h2:=fits_range (hr.fits x hx)
 by_cases h:x.1=(0,0,0)
 ·rw[if_pos h]at h1;exact absurd rfl h1
 ·by_cases h3:x.1.1+x.1.2.1+x.1.2.2<1
  ·exact absurd (show x.1=(0,0,0) by
    obtain⟨⟨a,b,c⟩,y⟩:=x;simp only[Prod.mk.injEq]at*;omega) h
  ·omega
theorem Dg.pw {p:List Ent}(hp:Pv p)(t:Rat):∀ k:Nat,Dg k (pwP t (stepP p t) k)
 | 0=>Dg.const t
 | k+1=>by
  have h1:Dg 1 (stepP p t):=by
   have:=Dg.mul (rest_pv hp) (Pv.const t) (Dg.rest hp) (Dg.const t);show Dg 1 (mulP _ _);simpa using this
  have:=Dg.mul (pw_pv hp t k) (step_pv hp t) (Dg.pw hp t k) h1;show Dg ((k+1:Nat):Int) (mulP _ _);simpa using this
theorem Dg.nil {l:List Ent}(hl:Pv l)(h:Dg 6 l):l=[]:=by
 obtain⟨S,_,hl⟩:=hl;cases l with
 | nil=>rfl
 | cons x r =>
  have h1:=h x (List.mem_cons_self ..);have h2:=fits_range (hl.fits x (List.mem_cons_self ..));omega
theorem pw_six {p:List Ent}(hp:Pv p)(t:Rat):pwP t (stepP p t) 6=[]:=Dg.nil (pw_pv hp t 6) (Dg.pw hp t 6)
theorem star_law {p:List Ent}(hp:Pv p)(hc:lowP p≠1):addP (constP 1) (mulP p (starP p))=starP p:=by
 refine Pv.ext ((Pv.const 1).add (hp.mul (so_pv hp _ 6))) (so_pv hp _ 6) fun e => ?_
 have h1:=star_ind hp hc 6 e;rw[pw_six hp]at h1;have h2:mulP (restP p) []=[]:=by
  have:=mulP_length (restP p) [];exact List.eq_nil_of_length_eq_zero (by simpa using this)
 rw[h2]at h1;rw[addP_tot];simp only[tot]at h1;show tot (constP 1) e+tot (mulP p (soP _ _ 6)) e=tot (soP _ _ 6) e;rw[h1];grind
end
end Fi.S
namespace Fi.S
open Go Fi
set_option maxHeartbeats 8000000
attribute [local simp] oo og ci ml mv ld lf fa lo st0 cl ia lr fl ln sv fb mF mi mn bx bc bl pF pT sl EX_skip EX_ret EX_exit EX_kill EX_seq EX_cond EX_block EX_region ROps_nil ROps_cons RK_mov RK_pick RK_bin RK_conv RK_beq RK_aeq RK_nileq RK_un RK_box RK_new RK_load RK_store RK_faddr RK_field RK_iaddr RK_aaddr RK_index RK_build RK_lit RK_len RK_maxi RK_mini RK_app RK_slice RK_mk RK_ext RK_clo RK_call RK_callv RK_callr RK_callw RK_loadl RK_mkmap RK_mget RK_mput RK_cap RK_appz callFull RK_slen RK_sindex RK_sslice guardV runK argV argsV doCall callPure D.cells FV.cells FV.one D.one oneV St.push St.heap St.setHeap splice partF partD s_add s_sub s_mul s_quo s_rem s_or s_and s_xor s_shl s_shr s_eql s_neq s_lss s_leq s_gtr s_geq unV setVars killVars apartOk finish ressV resV leavesL leaves leaveL leave1 allD mkA fillF finish2 isPure oneOf freezeAll FV.rows FV.rows1 D.norm D.norm1 scalar D.isV FV.shift FV.shiftL AObj.shift pureElem fillE elems FStmt.l FStmt.r FStmt.bl FStmt.lp
set_option maxRecDepth 10000
def lwL:FStmt:=f209.body.r.l.r.bl.lp
def lwS (es:List D)(i:Nat)(t:FV)(L:List AObj):St:=(st0 [.u,.r (.loc 0) 0,.u,.d (.s 6 es),.d (.v (.int .i64 es.length)),.d (.v (.int .i64 i)),t,.u] L)
def lwB:AObj:=.box [.d (.v (.bool false)),.d (.n 1),.d (.n 1)]
def lwR (x:Rat)(L:List AObj):St:=(st0 [.u,.r (.loc 0) 0,.u,.u,.u,.u,.u,.u] (L.set 0 (.box [.d (.v (.bool (qs x))),.d (LD (qn x)),.d (LD (qd x))])))
theorem deg_zero {e:Ex3}(h:fitsE e=true):degW e=0↔e=(0,0,0):=by
 have h2:=fits_range h;have h3:degW e=e.1+e.2.1+e.2.2:=degW_mid ⟨by omega,by omega⟩ ⟨by omega,by omega⟩ ⟨by omega,by omega⟩;rw[h3];obtain⟨a,b,c⟩:=e;simp only[Prod.mk.injEq]at*;omega
theorem lw_round (es:List D)(i:Nat)(p:Ent)(L:List AObj)(hi:es[i]?=some (qC p.1 p.2))(hn:es.length<=1000000)(hf:fitsE p.1=true)(hq:qz p.2<=90000)(h0:L[0]?=some lwB) :
  if p.1=(0,0,0) then ∃ L',Ex E1 lwL (lwS es i .u L) (.ret,lwR p.2 (L++L')) else ∃ b,Ex E1 lwL (lwS es i .u L) (.norm,lwS es (i+1) .u (L++[b])):=by
 have hil:i<es.length:=(List.getElem?_eq_some_iff.1 hi).1;have hinc:wrapS .i64 ((i:Int)+1)=(i:Int)+1:=wrap_i64 (by omega);have hk1:((i+1:Nat):Int)=(i:Int)+1:=by omega
 have hk0:(0:Int)<=(i:Int):=by omega
 have hkc:(i:Int)<(es.length:Int):=by omega
 have hLl:0<L.length:=(List.getElem?_eq_some_iff.1 h0).1;have g0:∀ X,(L++X)[0]?=some lwB:=fun X=>by rw[List.getElem?_append_left hLl];exact h0
 have hz:=qz_zero;obtain⟨n1,t1⟩:=(Ca.up1 (ca_addq p.2 0 (by omega) (by omega))).any;rw[Rat.add_zero,qD_zero]at t1;obtain⟨n2,t2⟩:=(Ca.up1 (Ca.ofS (run_degree 0 p.1))).any;obtain⟨K,hK⟩:∃ K,K=n1+n2:=⟨_,rfl⟩
 replace t1:=t1 K (by omega);replace t2:=t2 K (by omega);have hd:=deg_zero hf;obtain⟨⟨a,b,c⟩,x⟩:=p;simp only at hf hd;unfold lwR;simp only[qC,moC,qD,raw,LD,exD]at*;generalize qs x=s,LL (qn x)=ns,LL (qd x)=ds at*;generalize hdg:degW (a,b,c)=dg at*;have i1:=idx hi;unfold lwB at*;have j0:=idx h0;have gi:∀ X (h:0<(L++X).length),(L++X)[0]=_:=fun X h=>idx (g0 X) h
 by_cases h:((a,b,c):Ex3)=(0,0,0)
 ·rw[if_pos h];have hdg0:dg=0:=hd.2 h;refine⟨[.box [.d (.v (.int .i64 a)),.d (.v (.int .i64 b)),.d (.v (.int .i64 c)),.d (.v (.bool s)),.d (.s 1 ns),.d (.s 1 ds)]],Ex.of (n:=K+100) ?_⟩;unfold lwS;simp -implicitDefEqProofs [lwL,f209,hk0,hkc,hil,hi,i1,t1,t2,hdg0,g0,gi,hLl]
 ·rw[if_neg h];have hdg0:dg≠0:=fun h3=>h (hd.1 h3)
  have hdg1:(dg==0)=false:=by simpa using hdg0
  refine⟨.box [.d (.v (.int .i64 a)),.d (.v (.int .i64 b)),.d (.v (.int .i64 c)),.d (.v (.bool s)),.d (.s 1 ns),.d (.s 1 ds)],Ex.of (n:=K+100) ?_⟩;unfold lwS;rw[hk1];simp -implicitDefEqProofs [lwL,f209,hinc,hk0,hkc,hil,hi,i1,t1,t2,hdg0,hdg1,g0,gi,hLl]
theorem lw_loop {S:Nat}{l:List Ent}(h:PV S l)(hS:S<=1000) :
  ∃ r,Ex E1 (.loop lwL) (lwS (l.map fun p=>qC p.1 p.2) 0 .u [lwB]) r/\((∃ L,r=(.ret,lwR (lowP l) L)/\0<L.length)\/(lowP l=0/\∃ L,r=(.exit 0,lwS (l.map fun p=>qC p.1 p.2) l.length (.d (.v (.bool false))) L)/\L[0]?=some lwB)):=by
 have hlen:(l.map fun p=>qC p.1 p.2).length=l.length:=by simp
 have hll:=h.length;refine Ex.inv (E:=E1) (b:=lwL) (α:=Nat × List AObj) (S:=fun a=>lwS (l.map fun p=>qC p.1 p.2) a.1 .u a.2) (fun a=>l.length-a.1)
  (fun a=>a.1<=l.length/\a.2[0]?=some lwB/\∀ p ∈ l.take a.1,p.1≠(0,0,0)) _ (by
   rintro⟨i,L⟩ ⟨q1,q2,q3⟩;simp only at q1 q2 q3
   by_cases hi:i<l.length
   ·have hp:l[i]?=some l[i]:=List.getElem?_eq_getElem hi;have hp2:(l.map fun p=>qC p.1 p.2)[i]?=some (qC l[i].1 l[i].2):=by rw[List.getElem?_map,hp];rfl
    have hm:=List.getElem_mem hi;have hr:=lw_round _ i l[i] L hp2 (by rw[hlen];omega) (h.fits _ hm) (by have:=h.bd _ hm;omega) q2
    by_cases hz:l[i].1=(0,0,0)
    ·rw[if_pos hz]at hr;obtain⟨L',hr⟩:=hr;refine .inr ⟨_,hr,by simp,.inl ⟨L++L',?_,?_⟩⟩
     ·have:=tot_mem (srt_keys h.srt) hm;rw[hz]at this;unfold lowP;rw[this]
     ·have:=(List.getElem?_eq_some_iff.1 q2).1;rw[List.length_append];omega
    ·rw[if_neg hz]at hr;obtain⟨b,hr⟩:=hr;refine .inl ⟨(i+1,L++[b]),hr,by show l.length-(i+1)<l.length-i;omega,by show i+1<=_;omega,?_,?_⟩
     ·show(L++[b])[0]?=_;rw[List.getElem?_append_left (List.getElem?_eq_some_iff.1 q2).1];exact q2
     ·show ∀ p ∈ l.take (i+1),_;rw[List.take_add_one,hp];intro p hp';rcases List.mem_append.1 hp' with hp'|hp'
      ·exact q3 p hp'
      ·simp only[Option.toList_some,List.mem_singleton]at hp';rw[hp'];exact hz
   ·obtain rfl:i=l.length:=by omega
    rw[List.take_length]at q3;refine .inr ⟨_,Ex.of (n:=60) ?_,?_,.inr ⟨tot_not q3,L,rfl,q2⟩⟩
    ·simp only[lwS];rw[<-hlen];generalize (l.map fun p=>qC p.1 p.2)=es at*;simp -implicitDefEqProofs [lwL,f209]
    ·simp) (0,[lwB]) ⟨Nat.zero_le _,rfl,by simp⟩
theorem ca_lowest {S:Nat}{l:List Ent}(h:PV S l)(hS:S<=1000):Ca E1 209 [.d (polD l)] (.d (qD (lowP l)),none):=by
 obtain⟨N,t⟩:=(ca_pvalue h hS).get;obtain⟨r,hl,hr⟩:=lw_loop h hS;have hlen:(l.map fun p=>qC p.1 p.2).length=l.length:=by simp
 have hA:Ex E1 f209.body.l (st0 [.d (polD l),.u,.u,.u,.u,.u,.u,.u] []) (.norm,(st0 [.d (polD l),.r (.loc 0) 0,.u,.u,.u,.u,.u,.u] [lwB])):=by
  refine Ex.of (n:=60) ?_;generalize polD l=x;unfold lwB;simp -implicitDefEqProofs [f209]
 have hB:Ex E1 f209.body.r.l.l (st0 [.d (polD l),.r (.loc 0) 0,.u,.u,.u,.u,.u,.u] [lwB]) (.norm,lwS (l.map fun p=>qC p.1 p.2) 0 .u [lwB]):=by
  refine Ex.of (n:=N+60) ?_;unfold lwS lwB polD at*;generalize (l.map fun p=>qC p.1 p.2)=es at*;simp -implicitDefEqProofs [f209,t]
 rcases hr with ⟨L,rfl,h0⟩|⟨hz,L,rfl,h0⟩
 ·refine Ca.body (o:=.ret) (st1:=lwR (lowP l) L) rfl (k209:E1.fn _=_) rfl ?_ (by intro id h;cases h) ?_
  ·show Ex E1 (.seq f209.body.l (.seq (.seq f209.body.r.l.l (.block 0 (.loop lwL))) f209.body.r.r)) _ _;exact hA.seq (Ex.seq_ret (hB.seq (Ex.block_ret hl)))
  ·have s0:∀ o,(L.set 0 o)[0]?=some o:=fun o=>List.getElem?_set_self h0
   unfold lwR qD raw;simp only[LD];generalize LL (qn (lowP l))=ns;generalize LL (qd (lowP l))=ds;simp -implicitDefEqProofs [f209,s0]
 ·have hE:∃ n,(match EX E1 n f209.body.r.r (lwS (l.map fun p=>qC p.1 p.2) l.length (.d (.v (.bool false))) L) with|some (.exit _,_)=>none|some (_,st')=>finish f209 st'|none=>none)=some (.d (qD (lowP l)),none):=by
   refine⟨60,?_⟩;have h0l:0<L.length:=(List.getElem?_eq_some_iff.1 h0).1;have s0:∀ o,(L.set 0 o)[0]?=some o:=fun o=>List.getElem?_set_self h0l
   have i0:=idx h0;rw[hz,qD_zero];unfold lwS lwB at*;generalize (l.map fun p=>qC p.1 p.2)=es at*;simp -implicitDefEqProofs [f209,h0,i0,s0,h0l]
  obtain⟨n,hE⟩:=hE;obtain⟨o,st',hE,ho',hf⟩:=fin_of hE;refine Ca.body (o:=o) (st1:=st') rfl (k209:E1.fn _=_) rfl ?_ ho' hf;show Ex E1 (.seq f209.body.l (.seq (.seq f209.body.r.l.l (.block 0 (.loop lwL))) f209.body.r.r)) _ _;exact hA.seq ((hB.seq hl.block).seq hE)
theorem ca_pconst (x:Rat)(hx:qz x<=50000):Ca E1 153 [.d (qD x)] (.d (polD (constP x)),none):=by
 have h:=ca_constant x hx;have e:canon [((0,0,0),0+x)]=constP x:=by
  have hk:Keys [(((0,0,0):Ex3),0+x)]:=by simp[Keys]
  have hf:Fits [(((0,0,0):Ex3),0+x)]:=fun p hp=>by rw[List.mem_singleton]at hp;subst hp;show fitsE (0,0,0)=true;decide
  have hb:Bd (qz (0+x)) [(((0,0,0):Ex3),0+x)]:=fun p hp=>by rw[List.mem_singleton]at hp;subst hp;exact Nat.le_refl _
  refine Pv.ext (canon_pv hk hf hb).pv (Pv.const x) fun e => ?_
  rw[canon_tot,tot_const];simp only[tot]
  by_cases h:e=(0,0,0)
  ·subst h;simp;grind
  ·rw[if_neg (fun h2=>h h2.symm),if_neg h];grind
 rw[listD_eq,e]at h;exact h
theorem ca_pscale {S:Nat}{l:List Ent}(h:PV S l)(hS:S<=1000)(x:Rat)(hx:qz x<=S)(hm:l.length*(1*(2*S+1))<=50000):Ca E1 211 [.d (polD l),.d (qD x)] (.d (polD (mulP l (constP x))),none):=by
 obtain⟨n1,t1⟩:=(ca_pconst x (by omega)).any;obtain⟨n2,t2⟩:=(ca_pmul h (constP_pv hx) hS (Nat.le_trans (Nat.mul_le_mul_left _ (Nat.mul_le_mul_right _ (const_len x))) hm)).any;obtain⟨K,hK⟩:∃ K,K=n1+n2:=⟨_,rfl⟩
 replace t1:=t1 K (by omega);replace t2:=t2 K (by omega);refine Ca.ofS (n:=K+60) ?_;rw[CL_fn rfl (k211:E1.fn _=_) rfl];generalize mulP l (constP x)=m at*;generalize constP x=c at*;unfold polD qD raw at*;simp only[LD]at*;generalize (l.map fun p=>qC p.1 p.2)=x1 at*;generalize (m.map fun p=>qC p.1 p.2)=x2 at*;generalize (c.map fun p=>qC p.1 p.2)=x3 at*;generalize qs x=s,LL (qn x)=ns,LL (qd x)=ds at*;simp -implicitDefEqProofs [f211,t1,t2]
def qB (x:Rat):AObj:=.box [.d (.v (.bool (qs x))),.d (LD (qn x)),.d (LD (qd x))]
def pzL:FStmt:=f159.body.r.r.r.r.r.r.l.r.bl.lp
def pzS (n out pw:D)(t:FV)(L:List AObj):St:=(st0 [.u,.u,.u,.u,.u,.d n,.d out,.d pw,.u,t] L)
theorem pz_round {T:Nat}(hT:T<=1000){n out pw:List Ent}(hn:PV T n)(ho:PV T out)(hp:PV T pw)(hp2:PV T (mulP pw n))(h0:pw≠[])(h1:pw.length*(n.length*(2*T+1))<=50000)(h2:(out++mulP pw n).length*(T+1)<=50000)(L:List AObj) :
  Ex E1 pzL (pzS (polD n) (polD out) (polD pw) .u L) (.norm,pzS (polD n) (polD (addP out (mulP pw n))) (polD (mulP pw n)) .u L):=by
 obtain⟨n1,t1⟩:=(ca_pmul hp hn hT h1).any;obtain⟨n2,t2⟩:=(ca_padd ho hp2 hT h2).any;obtain⟨K,hK⟩:∃ K,K=n1+n2:=⟨_,rfl⟩
 replace t1:=t1 K (by omega);replace t2:=t2 K (by omega);have hl:0<(pw.map fun p=>qC p.1 p.2).length:=by
  rw[List.length_map];exact List.length_pos_iff.2 h0
 refine Ex.of (n:=K+100) ?_;unfold pzS;generalize addP out (mulP pw n)=x at*;generalize mulP pw n=y at*;unfold polD at*;generalize (pw.map fun p=>qC p.1 p.2)=l1 at*;generalize (n.map fun p=>qC p.1 p.2)=l2 at*;generalize (out.map fun p=>qC p.1 p.2)=l3 at*;generalize (x.map fun p=>qC p.1 p.2)=l4 at*;generalize (y.map fun p=>qC p.1 p.2)=l5 at*;have hl2:(0:Int)<(l1.length:Int):=by omega
 simp -implicitDefEqProofs [pzL,f159,t1,t2,hl,hl2]
structure StOK (T:Nat)(p:List Ent):Prop where
 step:PV T (stepP p (starT p))
 pw:∀ k,k<=6->PV T (pwP (starT p) (stepP p (starT p)) k)
 so:∀ k,k<=6->PV T (soP (starT p) (stepP p (starT p)) k)
 h1:∀ k,k<6->(pwP (starT p) (stepP p (starT p)) k).length*((stepP p (starT p)).length*(2*T+1))<=50000
 h2:∀ k,k<6->(soP (starT p) (stepP p (starT p)) k++pwP (starT p) (stepP p (starT p)) (k+1)).length*(T+1)<=50000
theorem pw_end {p:List Ent}(hp:Pv p)(t:Rat){k:Nat}(h:pwP t (stepP p t) k=[]):∀ j,pwP t (stepP p t) (k+j)=[]/\soP t (stepP p t) (k+j)=soP t (stepP p t) k
 | 0=>⟨h,rfl⟩
 | j+1=>by
  obtain⟨h1,h2⟩:=pw_end hp t h j;have h3:pwP t (stepP p t) (k+j+1)=[]:=by
   have e:pwP t (stepP p t) (k+j+1)=mulP (pwP t (stepP p t) (k+j)) (stepP p t):=rfl;rw[e,h1];have:=mulP_length [] (stepP p t);exact List.eq_nil_of_length_eq_zero (by simpa using this)
  refine⟨h3,?_⟩;have e:soP t (stepP p t) (k+j+1)=addP (soP t (stepP p t) (k+j)) (pwP t (stepP p t) (k+j+1)):=rfl;show soP t (stepP p t) (k+j+1)=_;rw[e,h3,h2];obtain⟨S,hS,hv⟩:=so_pv hp t k;exact addP_nil hS hv
theorem pz_loop {S T:Nat}{p:List Ent}(hp:PV S p)(hT:T<=1000)(h:StOK T p)(L:List AObj) :
  ∃ pw,Ex E1 (.loop pzL) (pzS (polD (stepP p (starT p))) (polD (constP (starT p))) (polD (constP (starT p))) .u L) (.exit 0,pzS (polD (stepP p (starT p))) (polD (starP p)) pw (.d (.v (.bool false))) L):=by
 obtain⟨r,hr,pw,rfl⟩:=Ex.inv (E:=E1) (b:=pzL) (α:=Nat) (S:=fun k=>pzS (polD (stepP p (starT p))) (polD (soP (starT p) (stepP p (starT p)) k)) (polD (pwP (starT p) (stepP p (starT p)) k)) .u L) (fun k=>6-k) (fun k=>k<=6)
  (fun r=>∃ pw,r=(.exit 0,pzS (polD (stepP p (starT p))) (polD (starP p)) pw (.d (.v (.bool false))) L)) (by
   intro k hk
   by_cases h0:pwP (starT p) (stepP p (starT p)) k=[]
   ·refine .inr ⟨_,Ex.of (n:=60) ?_,?_,polD [],rfl⟩
    ·obtain⟨j,hj⟩:∃ j,6=k+j:=⟨6-k,by omega⟩
     have e:starP p=soP (starT p) (stepP p (starT p)) k:=by
      unfold starP;rw[hj];exact(pw_end hp.pv _ h0 j).2
     rw[e];simp only[h0];generalize polD (soP _ _ k)=x1;generalize polD (stepP _ _)=x2;unfold pzS polD;simp -implicitDefEqProofs [pzL,f159]
    ·simp
   ·have hk6:k<6:=by
     rcases Nat.lt_or_ge k 6 with h6|h6
     ·exact h6
     ·obtain rfl:k=6:=by omega
      exact absurd (pw_six hp.pv _) h0
    refine .inl ⟨k+1,?_,by omega,by omega⟩;exact pz_round hT h.step (h.so k hk) (h.pw k hk) (h.pw (k+1) (by omega)) h0 (h.h1 k hk6) (h.h2 k hk6) L) 0 (Nat.zero_le _)
 exact⟨pw,hr⟩
theorem cmp_one {c:Rat}:((0:Int)<=(c.abs-1).num.sign)↔¬ (c.abs<1):=by
 have h1:(0:Int)<=(c.abs-1).num.sign↔0<=(c.abs-1).num:=by
  rcases Int.lt_trichotomy (c.abs-1).num 0 with h|h|h
  ·rw[Int.sign_eq_neg_one_of_neg h];omega
  ·rw[h];simp
  ·rw[Int.sign_eq_one_of_pos h];omega
 rw[h1,Rat.num_nonneg];grind
theorem ca_pstar {S T:Nat}{p:List Ent}(hp:PV S p)(hS:S<=400)(hS1:1<=S)(hT:T<=1000)(hl:p.length<=56)(hc:(lowP p).abs<1)(hr:PV T (restP p))(ht:qz (starT p)<=T)(hrl:(restP p).length*(1*(2*T+1))<=50000)(hal:(p++constP (-lowP p)).length*(S+1)<=50000)(h:StOK T p) :
  Ca E1 159 [.d (polD p)] (.d (.t [polD (starP p),.v (.int .i64 0)]),none):=by
 have hq:qz (lowP p)<=S:=tot_bd hS1 (srt_keys hp.srt) hp.bd _;have hqa:=qz_abs (lowP p);have hqn:=qz_neg (lowP p);have hq1:=qz_one;have hqs:=qz_sub 1 (lowP p);have hne:(1:Rat)-lowP p≠0:=by
  intro h0;have:lowP p=1:=by grind
  rw[this]at hc;exact absurd hc (by decide)
 obtain⟨pw,hloop⟩:=pz_loop hp hT h [qB (lowP p),qB (starT p)];have hi:=Ca.up1 (ca_integer 1 (by omega));have e1:((1:Int):Rat)=1:=rfl;rw[e1]at hi;obtain⟨m0,a1⟩:=(ca_lowest hp (by omega)).any;obtain⟨m1,a2⟩:=(Ca.up1 (ca_absq (lowP p) (by omega))).any;obtain⟨m2,a3⟩:=(hi).any;obtain⟨m3,a4⟩:=(Ca.up1 (ca_compareq (lowP p).abs 1 (by omega) (by omega))).any;obtain⟨m4,a5⟩:=(Ca.up1 (ca_subq 1 (lowP p) (by omega) (by omega))).any;obtain⟨m5,a6⟩:=(Ca.up1 (ca_divq 1 (1-lowP p) (by omega) (by omega) hne)).any;obtain⟨m6,a7⟩:=(Ca.up1 (ca_negq (lowP p) (by omega))).any;obtain⟨m7,a8⟩:=(ca_pconst (-lowP p) (by omega)).any;obtain⟨m8,a9⟩:=(ca_padd hp (constP_pv (x:=-lowP p) (S:=S) (by omega)) (by omega) hal).any;obtain⟨m9,b1⟩:=(ca_pscale hr hT (starT p) ht hrl).any;obtain⟨m10,b2⟩:=(ca_pconst (starT p) (by omega)).any;obtain⟨K,hK⟩:∃ K,K=m0+m1+m2+m3+m4+m5+m6+m7+m8+m9+m10:=⟨_,rfl⟩
 replace a1:=a1 K (by omega);replace a2:=a2 K (by omega);replace a3:=a3 K (by omega);replace a4:=a4 K (by omega);replace a5:=a5 K (by omega);replace a6:=a6 K (by omega);replace a7:=a7 K (by omega);replace a8:=a8 K (by omega);replace a9:=a9 K (by omega);replace b1:=b1 K (by omega);replace b2:=b2 K (by omega);have hcmp:decide ((0:Int)<=((lowP p).abs-1).num.sign)=false:=decide_eq_false fun h0=>(cmp_one.1 h0) hc
 change ∀ k,CL E1 (K+k) 190 _ _=some (.d (.t [qD (starT p),_]),none) at a6
 change ∀ k,CL E1 (K+k) 155 _ _=some (.d (polD (restP p)),none) at a9
 change ∀ k,CL E1 (K+k) 211 _ _=some (.d (polD (stepP p (starT p))),none) at b1
 have he:∃ s n d,qD (lowP p)=.a [.v (.bool s),.s 1 n,.s 1 d]/\qB (lowP p)=.box [.d (.v (.bool s)),.d (.s 1 n),.d (.s 1 d)]:=⟨_,_,_,rfl,rfl⟩
 have het:∃ s n d,qD (starT p)=.a [.v (.bool s),.s 1 n,.s 1 d]/\qB (starT p)=.box [.d (.v (.bool s)),.d (.s 1 n),.d (.s 1 d)]:=⟨_,_,_,rfl,rfl⟩
 have qa:∀ x,∃ s n d,qD x=.a [.v (.bool s),.s 1 n,.s 1 d]:=fun x=>⟨_,_,_,rfl⟩
 have pa:∀ x,∃ l,polD x=.s 6 l:=fun x=>⟨_,rfl⟩
 generalize ((lowP p).abs-1).num.sign=sg,starP p=res,stepP p (starT p)=stp,restP p=rst at*;generalize hcT:constP (starT p)=cT at*;generalize constP (-lowP p)=cN,starT p=tt at*;obtain⟨s1,l11,l12,f1,f1'⟩:=he;obtain⟨s2,l21,l22,f2,f2'⟩:=het;obtain⟨s3,l31,l32,f3⟩:=qa (lowP p).abs;obtain⟨s4,l41,l42,f4⟩:=qa 1;obtain⟨s5,l51,l52,f5⟩:=qa (1-lowP p);obtain⟨s6,l61,l62,f6⟩:=qa (-lowP p);obtain⟨x1,g1⟩:=pa p;obtain⟨x2,g2⟩:=pa res;obtain⟨x3,g3⟩:=pa stp;obtain⟨x4,g4⟩:=pa rst;obtain⟨x5,g5⟩:=pa cT;obtain⟨x6,g6⟩:=pa cN;rw[f1',f2',g3,g5,g2]at hloop;simp only[f1,f2,f3,f4,f5,f6,g1,g2,g3,g4,g5,g6]at a1 a2 a3 a4 a5 a6 a7 a8 a9 b1 b2 ⊢;clear f1 f2 f3 f4 f5 f6 g1 g2 g3 g4 g5 g6 f1' f2' qa pa hp hc hr ht hrl hal h hq hqa hqn hq1 hqs hne hi e1 hcT hK;have h0:Ex E1 f159.body.l (st0 [.d (.s 6 x1),.u,.u,.u,.u,.u,.u,.u,.u,.u] []) (.norm,(st0 [.d (.s 6 x1),.u,.u,.u,.u,.u,.u,.u,.u,.u] [])):=by
  refine Ex.of (n:=K+100) ?_;simp -implicitDefEqProofs [f159]
 have h1:Ex E1 f159.body.r.l (st0 [.d (.s 6 x1),.u,.u,.u,.u,.u,.u,.u,.u,.u] []) (.norm,(st0 [.d (.s 6 x1),.u,.u,.r (.loc 0) 0,.u,.u,.u,.u,.u,.u] [.box [.d (.v (.bool s1)),.d (.s 1 l11),.d (.s 1 l12)]])):=by
  refine Ex.of (n:=K+100) ?_;simp -implicitDefEqProofs [f159,a1]
 have h2:Ex E1 f159.body.r.r.l (st0 [.d (.s 6 x1),.u,.u,.r (.loc 0) 0,.u,.u,.u,.u,.u,.u] [.box [.d (.v (.bool s1)),.d (.s 1 l11),.d (.s 1 l12)]]) (.norm,(st0 [.d (.s 6 x1),.u,.u,.r (.loc 0) 0,.u,.u,.u,.u,.d (.v (.bool false)),.u] [.box [.d (.v (.bool s1)),.d (.s 1 l11),.d (.s 1 l12)]])):=by
  refine Ex.of (n:=K+100) ?_;simp -implicitDefEqProofs [f159,a2,a3,a4,hcmp]
 have h3:Ex E1 f159.body.r.r.r.l (st0 [.d (.s 6 x1),.u,.u,.r (.loc 0) 0,.u,.u,.u,.u,.d (.v (.bool false)),.u] [.box [.d (.v (.bool s1)),.d (.s 1 l11),.d (.s 1 l12)]]) (.norm,(st0 [.d (.s 6 x1),.u,.u,.r (.loc 0) 0,.r (.loc 1) 0,.u,.u,.u,.u,.u] [.box [.d (.v (.bool s1)),.d (.s 1 l11),.d (.s 1 l12)],.box [.d (.v (.bool s2)),.d (.s 1 l21),.d (.s 1 l22)]])):=by
  refine Ex.of (n:=K+100) ?_;simp -implicitDefEqProofs [f159,a3,a5,a6]
 have h4:Ex E1 f159.body.r.r.r.r.l (st0 [.d (.s 6 x1),.u,.u,.r (.loc 0) 0,.r (.loc 1) 0,.u,.u,.u,.u,.u] [.box [.d (.v (.bool s1)),.d (.s 1 l11),.d (.s 1 l12)],.box [.d (.v (.bool s2)),.d (.s 1 l21),.d (.s 1 l22)]]) (.norm,(st0 [.u,.u,.u,.u,.r (.loc 1) 0,.d (.s 6 x3),.u,.u,.u,.u] [.box [.d (.v (.bool s1)),.d (.s 1 l11),.d (.s 1 l12)],.box [.d (.v (.bool s2)),.d (.s 1 l21),.d (.s 1 l22)]])):=by
  refine Ex.of (n:=K+100) ?_;simp -implicitDefEqProofs [f159,a7,a8,a9,b1]
 have h5:Ex E1 f159.body.r.r.r.r.r.l (st0 [.u,.u,.u,.u,.r (.loc 1) 0,.d (.s 6 x3),.u,.u,.u,.u] [.box [.d (.v (.bool s1)),.d (.s 1 l11),.d (.s 1 l12)],.box [.d (.v (.bool s2)),.d (.s 1 l21),.d (.s 1 l22)]]) (.norm,(st0 [.u,.u,.u,.u,.u,.d (.s 6 x3),.d (.s 6 x5),.u,.u,.u] [.box [.d (.v (.bool s1)),.d (.s 1 l11),.d (.s 1 l12)],.box [.d (.v (.bool s2)),.d (.s 1 l21),.d (.s 1 l22)]])):=by
  refine Ex.of (n:=K+100) ?_;simp -implicitDefEqProofs [f159,b2]
 have h6:Ex E1 f159.body.r.r.r.r.r.r.l.l (st0 [.u,.u,.u,.u,.u,.d (.s 6 x3),.d (.s 6 x5),.u,.u,.u] [.box [.d (.v (.bool s1)),.d (.s 1 l11),.d (.s 1 l12)],.box [.d (.v (.bool s2)),.d (.s 1 l21),.d (.s 1 l22)]]) (.norm,(st0 [.u,.u,.u,.u,.u,.d (.s 6 x3),.d (.s 6 x5),.d (.s 6 x5),.u,.u] [.box [.d (.v (.bool s1)),.d (.s 1 l11),.d (.s 1 l12)],.box [.d (.v (.bool s2)),.d (.s 1 l21),.d (.s 1 l22)]])):=by
  refine Ex.of (n:=K+100) ?_;simp -implicitDefEqProofs [f159]
 refine Ca.body (o:=.ret) (st1:=(st0 [.u,.d (.s 6 x2),.d (.v (.int .i64 0)),.u,.u,.u,.u,.u,.u,.u] [.box [.d (.v (.bool s1)),.d (.s 1 l11),.d (.s 1 l12)],.box [.d (.v (.bool s2)),.d (.s 1 l21),.d (.s 1 l22)]])) rfl (k159:E1.fn _=_) rfl ?_ (by intro id h;cases h) ?_
 ·show Ex E1 (.seq f159.body.l (.seq f159.body.r.l (.seq f159.body.r.r.l (.seq f159.body.r.r.r.l (.seq f159.body.r.r.r.r.l (.seq f159.body.r.r.r.r.r.l (.seq (.seq f159.body.r.r.r.r.r.r.l.l (.block 0 (.loop pzL))) f159.body.r.r.r.r.r.r.r))))))) _ _;refine h0.seq (h1.seq (h2.seq (h3.seq (h4.seq (h5.seq ((h6.seq hloop.block).seq (Ex.of (n:=60) ?_)))))));unfold pzS;simp -implicitDefEqProofs [f159]
 ·simp -implicitDefEqProofs [f159,mkT]
end Fi.S
namespace Fi.S
open Go Fi
set_option maxHeartbeats 1000000
theorem mul_keys {a b:List Ent}{e:Ex3}(h:tot (mulP a b) e≠0):∃ y ∈ a,∃ z ∈ b,addE y.1 z.1=e:=by
 rw[mulP_tot]at h
 by_cases he:∃ x ∈ prodE a b,x.1=e
 ·obtain⟨x,hx,hxe⟩:=he;obtain⟨y,hy,hx⟩:=List.mem_flatMap.1 hx;obtain⟨z,hz,rfl⟩:=List.mem_map.1 (List.mem_filter.1 hx).1;exact⟨y,hy,z,hz,hxe⟩
 ·exact absurd (tot_not fun x hx hxe=>he ⟨x,hx,hxe⟩) h
theorem keys_one {l:List Ent}{e:Ex3}(h:Keys l)(he:∀ p ∈ l,p.1=e):l.length<=1:=by
 match l,h,he with
 | [],_,_=>simp
 | [_],_,_=>simp
 | x::y::r,h,he =>
  have h1:=he x (by simp);have h2:=he y (by simp);unfold Keys at h;rw[List.map_cons,List.map_cons,List.nodup_cons]at h;exact absurd (by rw[h1,h2];simp) h.1
theorem star_ok {p:List Ent}(hp:PV 9 p)(hl:p.length<=2)(h1:(restP p).length<=1):StOK 900 p/\PV 19 (restP p)/\qz (starT p)<=12:=by
 have hq:qz (lowP p)<=9:=tot_bd (by omega) (srt_keys hp.srt) hp.bd _;have hn:=qz_neg (lowP p);have hr:PV 19 (restP p):=addP_pv2 (S:=9) (T:=9) (by omega) (by omega) hp (constP_pv (by omega));have ht:qz (starT p)<=12:=by
  have h2:=qz_sub 1 (lowP p);have h3:=qz_one;unfold starT
  by_cases h0:(1:Rat)-lowP p=0
  ·rw[h0,Rat.div_def,Rat.inv_zero,Rat.mul_zero];have:=qz_zero;omega
  ·have:=qz_div 1 (1-lowP p) h0;omega
 have hs:PV 33 (stepP p (starT p)):=by
  have:=mulP_pv (S:=19) (T:=12) (by omega) hr (constP_pv ht);refine this.mono ?_;have:=Nat.mul_le_mul_right (19+12+1) h1;omega
 have hsl:(stepP p (starT p)).length<=1:=Nat.le_trans (mulP_length _ _) (Nat.le_trans (Nat.mul_le_mul h1 (const_len _)) (by omega));have hw:∀ k,PV (12+35*k) (pwP (starT p) (stepP p (starT p)) k)/\(pwP (starT p) (stepP p (starT p)) k).length<=1:=by
  intro k
  induction k with
  | zero=>exact⟨constP_pv (by omega),const_len _⟩
  | succ k ih =>
   refine⟨(mulP_pv (by omega) ih.1 hs).mono ?_,Nat.le_trans (mulP_length _ _) (Nat.le_trans (Nat.mul_le_mul ih.2 hsl) (by omega))⟩;have:=Nat.mul_le_mul_right (12+35*k+33+1) ih.2;omega
 have ho:∀ k,PV (12+13*k+35*(k*(k+1) / 2)) (soP (starT p) (stepP p (starT p)) k)/\(soP (starT p) (stepP p (starT p)) k).length<=k+1:=by
  intro k
  induction k with
  | zero=>exact⟨constP_pv (by omega),const_len _⟩
  | succ k ih =>
   have h2:=hw (k+1);refine⟨(addP_pv2 (by omega) (by omega) ih.1 h2.1).mono ?_,?_⟩
   ·have e:(k+1)*(k+1+1) / 2=k*(k+1) / 2+(k+1):=by
     have:(k+1)*(k+1+1)=k*(k+1)+(k+1)*2:=by grind
     rw[this,Nat.add_mul_div_right _ _ (by omega)]
    rw[e];omega
   ·have:=addP_length (soP (starT p) (stepP p (starT p)) k) (pwP (starT p) (stepP p (starT p)) (k+1));show(addP _ _).length<=_;omega
 refine⟨⟨hs.mono (by omega),fun k hk=>(hw k).1.mono (by omega),fun k hk=>(ho k).1.mono ?_,fun k hk => ?_,fun k hk => ?_⟩,hr,ht⟩
 ·have h2:k*(k+1)<=6*7:=Nat.mul_le_mul hk (by omega);omega
 ·have h2:=Nat.mul_le_mul (hw k).2 (Nat.mul_le_mul_right (2*900+1) hsl);omega
 ·have h2:=(ho k).2;have h3:=(hw (k+1)).2;rw[List.length_append];refine Nat.le_trans (Nat.mul_le_mul_right (900+1) (show _<=8 by omega)) (by omega)
theorem so_len {p:List Ent}(hp:PV 9 p)(hl:p.length<=2)(h1:(restP p).length<=1):(starP p).length<=7:=by
 have hsl:(stepP p (starT p)).length<=1:=Nat.le_trans (mulP_length _ _) (Nat.le_trans (Nat.mul_le_mul h1 (const_len _)) (by omega));have hw:∀ k,(pwP (starT p) (stepP p (starT p)) k).length<=1:=by
  intro k
  induction k with
  | zero=>exact const_len _
  | succ k ih=>exact Nat.le_trans (mulP_length _ _) (Nat.le_trans (Nat.mul_le_mul ih hsl) (by omega))
 have ho:∀ k,(soP (starT p) (stepP p (starT p)) k).length<=k+1:=by
  intro k
  induction k with
  | zero=>exact const_len _
  | succ k ih =>
   have h2:=hw (k+1);have:=addP_length (soP (starT p) (stepP p (starT p)) k) (pwP (starT p) (stepP p (starT p)) (k+1));show(addP _ _).length<=_;omega
 exact ho 6
theorem made_rest (v:Int):(restP (madeP v)).length<=1/\lowP (madeP v)=ofI (v % 5-2) 3:=by
 have hp:=(madeP_pv v).1.pv;have main:∃ i,∀ e:Ex3,tot (madeP v) e=(if e=(0,0,0) then ofI (v % 5-2) 3 else 0)+(if e=paramE i then tot (madeP v) e else 0):=by
  refine⟨((v.tdiv 10) % 3).toNat,fun e => ?_⟩;have hne:paramE ((v.tdiv 10) % 3).toNat≠(0,0,0):=by
   unfold paramE;split
   ·decide
   ·split<;>decide
  by_cases h2:e=paramE ((v.tdiv 10) % 3).toNat
  ·rw[if_pos h2,if_neg (by rw[h2];exact hne)];grind
  ·rw[if_neg h2];unfold madeP;split
   ·rw[addP_tot,tot_const];have h3:tot (mulP [(paramE ((v.tdiv 10) % 3).toNat,1)] (constP (numQ v))) e=0:=by
     apply Classical.byContradiction;intro h3;obtain⟨y,hy,z,hz,hyz⟩:=mul_keys h3;rw[List.mem_singleton]at hy;subst hy;unfold constP at hz;split at hz
     ·cases hz
     ·rw[List.mem_singleton]at hz;subst hz;apply h2;rw[<-hyz];simp[addE]
    rw[h3]
   ·rw[tot_const];grind
 obtain⟨i,main⟩:=main;have hne:paramE i≠(0,0,0):=by
  unfold paramE;split
  ·decide
  ·split<;>decide
 constructor
 ·obtain⟨S,_,hr⟩:=rest_pv hp;refine keys_one (e:=paramE i) (srt_keys hr.srt) fun x hx => ?_
  have h1:=mem_tot (rest_pv hp) hx;rw[rest_tot]at h1;apply Classical.byContradiction;intro h2
  by_cases h3:x.1=(0,0,0)
  ·rw[if_pos h3]at h1;exact h1 rfl
  ·rw[if_neg h3,main,if_neg h3,if_neg h2]at h1;exact h1 (by grind)
 ·unfold lowP;rw[main,if_pos rfl,if_neg (fun h=>hne h.symm)];grind
theorem made_low (v:Int):(lowP (madeP v)).abs<1:=by
 rw[(made_rest v).2];have h1:=Int.emod_nonneg v (show(5:Int)≠0 by omega);have h2:=Int.emod_lt_of_pos v (show(0:Int)<5 by omega);have h3:v % 5=0\/v % 5=1\/v % 5=2\/v % 5=3\/v % 5=4:=by omega
 rcases h3 with h|h|h|h|h<;>rw[h]<;>decide +kernel
end Fi.S
namespace Fi.S
open Go Fi
set_option maxHeartbeats 8000000
attribute [local simp] oo og ci ml mv ld lf fa lo st0 cl ia lr fl ln sv fb mF mi mn bx bc bl pF pT sl EX_skip EX_ret EX_exit EX_kill EX_seq EX_cond EX_block EX_region ROps_nil ROps_cons RK_mov RK_pick RK_bin RK_conv RK_beq RK_aeq RK_nileq RK_un RK_box RK_new RK_load RK_store RK_faddr RK_field RK_iaddr RK_aaddr RK_index RK_build RK_lit RK_len RK_maxi RK_mini RK_app RK_slice RK_mk RK_ext RK_clo RK_call RK_callv RK_callr RK_callw RK_loadl RK_mkmap RK_mget RK_mput RK_cap RK_appz callFull RK_slen RK_sindex RK_sslice guardV runK argV argsV doCall callPure D.cells FV.cells FV.one D.one oneV St.push St.heap St.setHeap splice partF partD s_add s_sub s_mul s_quo s_rem s_or s_and s_xor s_shl s_shr s_eql s_neq s_lss s_leq s_gtr s_geq unV setVars killVars apartOk finish ressV resV leavesL leaves leaveL leave1 allD mkA fillF finish2 isPure oneOf freezeAll FV.rows FV.rows1 D.norm D.norm1 scalar D.isV FV.shift FV.shiftL AObj.shift pureElem fillE elems FStmt.l FStmt.r FStmt.bl FStmt.lp
set_option maxRecDepth 10000
theorem ca_quot (x:Rat)(hx:qz x<=10000):Ca E1 117 [.d (Sv.q x).w.d] (.d (.t (if x.abs<1 then [(Sv.q (1 / (1-x))).w.d,.v (.int .i64 0)] else [(Sv.q 0).w.d,.v (.int .i64 7)])),none):=by
 have hq1:=qz_one;have hqa:=qz_abs x;have hqs:=qz_sub 1 x;have tn:=Ca.up1 ca_number1;have e0:oneW=(Sv.q 1).w.d:=(oneK_d (k:=1) rfl).symm;rw[e0]at tn;obtain⟨m0,a0⟩:=tn.any;obtain⟨m1,a1⟩:=(Ca.up1 (ca_absq x (by omega))).any;obtain⟨m2,a2⟩:=(Ca.up1 (ca_compareq x.abs 1 (by omega) (by omega))).any;obtain⟨m3,a3⟩:=(Ca.up1 (ca_subq 1 x (by omega) (by omega))).any;obtain⟨s1,n1,d1,e1,g1⟩:=q_d x;obtain⟨s2,n2,d2,e2,g2⟩:=q_d 1;obtain⟨s3,n3,d3,e3,g3⟩:=q_d x.abs;obtain⟨s4,n4,d4,e4,g4⟩:=q_d (1-x);have ez:(Sv.q 0).w.d=wD false [] [] 0 false 0 [] []:=zeroK_d 1
 by_cases h:x.abs<1
 ·rw[if_pos h];have hne:(1:Rat)-x≠0:=by
   intro h0;have:x=1:=by grind
   rw[this]at h;exact absurd h (by decide)
  obtain⟨m4,a4⟩:=(Ca.up1 (ca_divq 1 (1-x) (by omega) (by omega) hne)).any;obtain⟨s5,n5,d5,e5,g5⟩:=q_d (1 / (1-x));obtain⟨K,hK⟩:∃ K,K=m0+m1+m2+m3+m4:=⟨_,rfl⟩
  replace a0:=a0 K (by omega);replace a1:=a1 K (by omega);replace a2:=a2 K (by omega);replace a3:=a3 K (by omega);replace a4:=a4 K (by omega);have hcmp:¬ (0:Int)<=(x.abs-1).num.sign:=fun h0=>cmp_one.1 h0 h
  generalize (x.abs-1).num.sign=sg at*;simp only[e1,e2,e3,e4,e5,g1,g2,g3,g4,g5]at a0 a1 a2 a3 a4 ⊢;refine Ca.ofS (n:=K+100) ?_;rw[CL_fn rfl (k117:E1.fn _=_) rfl];unfold wD at*;clear hK tn;simp -implicitDefEqProofs [f117,a0,a1,a2,a3,a4,hcmp,mkT]
 ·rw[if_neg h];obtain⟨K,hK⟩:∃ K,K=m0+m1+m2+m3:=⟨_,rfl⟩
  replace a0:=a0 K (by omega);replace a1:=a1 K (by omega);replace a2:=a2 K (by omega);replace a3:=a3 K (by omega);have hcmp:(0:Int)<=(x.abs-1).num.sign:=cmp_one.2 h;generalize (x.abs-1).num.sign=sg at*;simp only[e1,e2,e3,e4,g1,g2,g3,g4,ez]at a0 a1 a2 a3 ⊢;refine Ca.ofS (n:=K+100) ?_;rw[CL_fn rfl (k117:E1.fn _=_) rfl];unfold wD at*;clear hK tn;simp -implicitDefEqProofs [f117,a0,a1,a2,a3,hcmp,mkT]
theorem ca_star5 {l r:List Ent}(h:Ca E1 159 [.d (polD l)] (.d (.t [polD r,.v (.int .i64 0)]),none)):Ca E1 158 [.d (Sv.p l).w.d] (.d (.t [(Sv.p r).w.d,.v (.int .i64 0)]),none):=by
 obtain⟨K,a0⟩:=h.get;refine Ca.ofS (n:=K+100) ?_;rw[CL_fn rfl (k158:E1.fn _=_) rfl];simp only[wP_d];unfold polD at*;generalize (l.map fun p=>qC p.1 p.2)=x1 at*;generalize (r.map fun p=>qC p.1 p.2)=x2 at*;simp -implicitDefEqProofs [f158,a0,mkT]
theorem run195 {g:Nat}{x z:W}(h:Ca E1 g [] (.d z.d,none)):∃ N,∀ (B:List AObj) (j:Nat),B[j]?=some (.box [.d (.fn g)])->∀ m,CL E1 (N+m) 195 [.d x.d,.r (.old j) 0] B=some (.d (.t [z.d,.v (.int .i64 0)]),none):=by
 obtain⟨N,t⟩:=h.get;refine⟨N+60,fun B j hB m => ?_⟩;obtain⟨xs,xl1,xl2,xc,xb,xu,xp,xps,ex⟩:=x.wD_of;obtain⟨zs,zl1,zl2,zc,zb,zu,zp,zps,ez⟩:=z.wD_of;rw[ez]at t ⊢;rw[ex];have hjl:j<B.length:=(List.getElem?_eq_some_iff.1 hB).1;have hBi:∀ L,(B++L)[j]?=some (.box [.d (.fn g)]):=fun L=>by rw[List.getElem?_append_left hjl];exact hB
 replace t:=fun k=>t (m+k)
 simp only[<-Nat.add_assoc]at t;rw[show N+60+m=N+m+60 by omega];generalize N+m=n at*;rw[CL_fn rfl (k195:E1.fn _=_) rfl];unfold wD at*;simp -implicitDefEqProofs [f195,t,hBi,mkT]
theorem sim_star1 (v x1 z:W)(e:Int)(tv:Ca E1 41 [.d (rgD 1 []),.d v.d] (.d x1.d,none))(h1:Ca E1 117 [.d x1.d] (.d (.t [z.d,.v (.int .i64 e)]),none)):Ca E1 17 [.d (rgD 1 []),.d v.d] (.d (.t [z.d,.v (.int .i64 e)]),none):=by
 obtain⟨m0,a0⟩:=tv.any;obtain⟨m1,a1⟩:=(Ca.up1 (Ca.of cl_kind1)).any;obtain⟨m2,s1⟩:=h1.any;obtain⟨K,hK⟩:∃ K,K=1000+m0+m1+m2:=⟨_,rfl⟩
 replace a0:=a0 K (by omega);replace a1:=a1 K (by omega);replace s1:=s1 K (by omega);have t31:=fun m=>CL_mono (rv_true (k:=1) (ps:=[]) rfl 0) (show 0+500<=K+m by omega)
 obtain⟨vs,vl1,vl2,vc,vb,vu,vp,vps,ev⟩:=v.wD_of;obtain⟨x1s,x1l1,x1l2,x1c,x1b,x1u,x1p,x1ps,ex1⟩:=x1.wD_of;obtain⟨zs,zl1,zl2,zc,zb,zu,zp,zps,ez⟩:=z.wD_of;simp only[ev,ex1,ez]at a0 s1 ⊢;clear hK ev ex1 ez tv h1;refine Ca.ofS (n:=K+100) ?_;rw[CL_fn rfl (k17:E1.fn _=_) rfl];unfold kindV1 alg1 at*;unfold wD rgD at*;simp only[show LK .i64 []=[] from rfl]at*;simp (maxSteps:=1000000) -implicitDefEqProofs [f17,t31,a0,a1,s1,FV.toOld,FV.toOldL,FV.shift,FV.shiftL,AObj.shift,AObj.toOld,mkT]
theorem sim_star2 (v x1 z:W)(tv:Ca E1 41 [.d (rgD 2 []),.d v.d] (.d x1.d,none))(h1:Ca E1 124 [] (.d z.d,none)):Ca E1 17 [.d (rgD 2 []),.d v.d] (.d (.t [z.d,.v (.int .i64 0)]),none):=by
 obtain⟨m0,a0⟩:=tv.any;obtain⟨m1,a1⟩:=(Ca.up1 (Ca.of cl_kind2)).any;obtain⟨m2,s1⟩:=run195 (x:=x1) h1;obtain⟨K,hK⟩:∃ K,K=1000+m0+m1+m2:=⟨_,rfl⟩
 replace a0:=a0 K (by omega);replace a1:=a1 K (by omega);replace s1:=fun B j hB m=>CL_mono (s1 B j hB 0) (show m2+0<=K+m by omega)
 have t31:=fun m=>CL_mono (rv_true (k:=2) (ps:=[]) rfl 0) (show 0+500<=K+m by omega)
 obtain⟨vs,vl1,vl2,vc,vb,vu,vp,vps,ev⟩:=v.wD_of;obtain⟨x1s,x1l1,x1l2,x1c,x1b,x1u,x1p,x1ps,ex1⟩:=x1.wD_of;obtain⟨zs,zl1,zl2,zc,zb,zu,zp,zps,ez⟩:=z.wD_of;simp only[ev,ex1,ez]at a0 s1 ⊢;clear hK ev ex1 ez tv h1;refine Ca.ofS (n:=K+100) ?_;rw[CL_fn rfl (k17:E1.fn _=_) rfl];unfold kindV2 kindB2 kindL2 at*;unfold wD rgD at*;simp only[show LK .i64 []=[] from rfl]at*;simp (maxSteps:=1000000) -implicitDefEqProofs [f17,t31,a0,a1,s1,FV.toOld,FV.toOldL,FV.shift,FV.shiftL,AObj.shift,AObj.toOld,mkT]
theorem sim_star3 (v x1 z:W)(tv:Ca E1 41 [.d (rgD 3 []),.d v.d] (.d x1.d,none))(h1:Ca E1 111 [] (.d z.d,none)):Ca E1 17 [.d (rgD 3 []),.d v.d] (.d (.t [z.d,.v (.int .i64 0)]),none):=by
 obtain⟨m0,a0⟩:=tv.any;obtain⟨m1,a1⟩:=(Ca.up1 (Ca.of cl_kind3)).any;obtain⟨m2,s1⟩:=run195 (x:=x1) h1;obtain⟨K,hK⟩:∃ K,K=1000+m0+m1+m2:=⟨_,rfl⟩
 replace a0:=a0 K (by omega);replace a1:=a1 K (by omega);replace s1:=fun B j hB m=>CL_mono (s1 B j hB 0) (show m2+0<=K+m by omega)
 have t31:=fun m=>CL_mono (rv_true (k:=3) (ps:=[]) rfl 0) (show 0+500<=K+m by omega)
 obtain⟨vs,vl1,vl2,vc,vb,vu,vp,vps,ev⟩:=v.wD_of;obtain⟨x1s,x1l1,x1l2,x1c,x1b,x1u,x1p,x1ps,ex1⟩:=x1.wD_of;obtain⟨zs,zl1,zl2,zc,zb,zu,zp,zps,ez⟩:=z.wD_of;simp only[ev,ex1,ez]at a0 s1 ⊢;clear hK ev ex1 ez tv h1;refine Ca.ofS (n:=K+100) ?_;rw[CL_fn rfl (k17:E1.fn _=_) rfl];unfold kindV3 kindB3 kindL3 at*;unfold wD rgD at*;simp only[show LK .i64 []=[] from rfl]at*;simp (maxSteps:=1000000) -implicitDefEqProofs [f17,t31,a0,a1,s1,FV.toOld,FV.toOldL,FV.shift,FV.shiftL,AObj.shift,AObj.toOld,mkT]
theorem sim_star4 (v x1 z:W)(tv:Ca E1 41 [.d (rgD 4 []),.d v.d] (.d x1.d,none))(h1:Ca E1 141 [] (.d z.d,none)):Ca E1 17 [.d (rgD 4 []),.d v.d] (.d (.t [z.d,.v (.int .i64 0)]),none):=by
 obtain⟨m0,a0⟩:=tv.any;obtain⟨m1,a1⟩:=(Ca.up1 (Ca.of cl_kind4)).any;obtain⟨m2,s1⟩:=run195 (x:=x1) h1;obtain⟨K,hK⟩:∃ K,K=1000+m0+m1+m2:=⟨_,rfl⟩
 replace a0:=a0 K (by omega);replace a1:=a1 K (by omega);replace s1:=fun B j hB m=>CL_mono (s1 B j hB 0) (show m2+0<=K+m by omega)
 have t31:=fun m=>CL_mono (rv_true (k:=4) (ps:=[]) rfl 0) (show 0+500<=K+m by omega)
 obtain⟨vs,vl1,vl2,vc,vb,vu,vp,vps,ev⟩:=v.wD_of;obtain⟨x1s,x1l1,x1l2,x1c,x1b,x1u,x1p,x1ps,ex1⟩:=x1.wD_of;obtain⟨zs,zl1,zl2,zc,zb,zu,zp,zps,ez⟩:=z.wD_of;simp only[ev,ex1,ez]at a0 s1 ⊢;clear hK ev ex1 ez tv h1;refine Ca.ofS (n:=K+100) ?_;rw[CL_fn rfl (k17:E1.fn _=_) rfl];unfold kindV4 kindB4 kindL4 at*;unfold wD rgD at*;simp only[show LK .i64 []=[] from rfl]at*;simp (maxSteps:=1000000) -implicitDefEqProofs [f17,t31,a0,a1,s1,FV.toOld,FV.toOldL,FV.shift,FV.shiftL,AObj.shift,AObj.toOld,mkT]
theorem sim_star5 (v x1 z:W)(e:Int)(tv:Ca E1 41 [.d (rgD 5 []),.d v.d] (.d x1.d,none))(h1:Ca E1 158 [.d x1.d] (.d (.t [z.d,.v (.int .i64 e)]),none)):Ca E1 17 [.d (rgD 5 []),.d v.d] (.d (.t [z.d,.v (.int .i64 e)]),none):=by
 obtain⟨m0,a0⟩:=tv.any;obtain⟨m1,a1⟩:=(Ca.up1 (Ca.of cl_kind5)).any;obtain⟨m2,s1⟩:=h1.any;obtain⟨K,hK⟩:∃ K,K=1000+m0+m1+m2:=⟨_,rfl⟩
 replace a0:=a0 K (by omega);replace a1:=a1 K (by omega);replace s1:=s1 K (by omega);have t31:=fun m=>CL_mono (rv_true (k:=5) (ps:=[]) rfl 0) (show 0+500<=K+m by omega)
 obtain⟨vs,vl1,vl2,vc,vb,vu,vp,vps,ev⟩:=v.wD_of;obtain⟨x1s,x1l1,x1l2,x1c,x1b,x1u,x1p,x1ps,ex1⟩:=x1.wD_of;obtain⟨zs,zl1,zl2,zc,zb,zu,zp,zps,ez⟩:=z.wD_of;simp only[ev,ex1,ez]at a0 s1 ⊢;clear hK ev ex1 ez tv h1;refine Ca.ofS (n:=K+100) ?_;rw[CL_fn rfl (k17:E1.fn _=_) rfl];unfold kindV5 at*;unfold wD rgD at*;simp only[show LK .i64 []=[] from rfl]at*;simp (maxSteps:=1000000) -implicitDefEqProofs [f17,t31,a0,a1,s1,FV.toOld,FV.toOldL,FV.shift,FV.shiftL,AObj.shift,AObj.toOld,mkT]
theorem sim_star12 (x1 x2 z1 z2:W)(tv:Ca E1 41 [.d (rgD 6 [1,2]),.d (wD false [] [] 0 false 0 [] [x1.d,x2.d])] (.d (wD false [] [] 0 false 0 [] [x1.d,x2.d]),none))(h1:Ca E1 117 [.d x1.d] (.d (.t [z1.d,.v (.int .i64 0)]),none))(h2:Ca E1 124 [] (.d z2.d,none)) :
  Ca E1 17 [.d (rgD 6 [1,2]),.d (wD false [] [] 0 false 0 [] [x1.d,x2.d])] (.d (.t [wD false [] [] 0 false 0 [] [z1.d,z2.d],.v (.int .i64 0)]),none):=by
 obtain⟨m0,a0⟩:=tv.any;obtain⟨m1,k1⟩:=(Ca.up1 (Ca.of cl_kind1)).any;obtain⟨m2,k2⟩:=(Ca.up1 (Ca.of cl_kind2)).any;obtain⟨m3,s1⟩:=h1.any;obtain⟨m4,s2⟩:=run195 (x:=x2) h2;obtain⟨K,hK⟩:∃ K,K=1000+m0+m1+m2+m3+m4:=⟨_,rfl⟩
 replace a0:=a0 K (by omega);replace k1:=k1 K (by omega);replace k2:=k2 K (by omega);replace s1:=s1 K (by omega);replace s2:=fun B j hB m=>CL_mono (s2 B j hB 0) (show m4+0<=K+m by omega)
 have t31:=fun m=>CL_mono (rv_true (k:=6) (ps:=[1,2]) rfl 0) (show 0+500<=K+m by omega)
 obtain⟨x1s,x1l1,x1l2,x1c,x1b,x1u,x1p,x1ps,ex1⟩:=x1.wD_of;obtain⟨x2s,x2l1,x2l2,x2c,x2b,x2u,x2p,x2ps,ex2⟩:=x2.wD_of;obtain⟨z1s,z1l1,z1l2,z1c,z1b,z1u,z1p,z1ps,ez1⟩:=z1.wD_of;obtain⟨z2s,z2l1,z2l2,z2c,z2b,z2u,z2p,z2ps,ez2⟩:=z2.wD_of;simp only[ex1,ex2,ez1,ez2]at*;clear hK tv h1 h2 ex1 ex2 ez1 ez2;have c43:=fun n a b B=>CL_fn (E:=E1) (n:=n) (args:=[a,b]) (B:=B) rfl (k43:E1.fn _=_) rfl
 have c52:=fun n a b c d B=>CL_fn (E:=E1) (n:=n) (args:=[a,b,c,d]) (B:=B) rfl (k52:E1.fn _=_) rfl
 refine Ca.ofS (n:=K+500) ?_;rw[CL_fn rfl (k17:E1.fn _=_) rfl];unfold kindV1 alg1 kindV2 kindB2 kindL2 at*;unfold wD rgD at*;simp only[show LK .i64 [1,2]=[.v (.int .i64 1),.v (.int .i64 2)] from rfl]at*;simp (maxSteps:=1000000) -implicitDefEqProofs [EX_loop,f17,f43,f52,c43,c52,t31,a0,k1,k2,s1,s2,FV.toOld,FV.toOldL,FV.shift,FV.shiftL,AObj.shift,AObj.toOld,mkT,most,wr1,wr2,wr3,AObj.view,callWild,localAll,checked,runLoad,bndB,Ref.abs]
theorem sim_star12b (x1 x2 z1 z2:W)(tv:Ca E1 41 [.d (rgD 6 [1,2]),.d (wD false [] [] 0 false 0 [] [x1.d,x2.d])] (.d (wD false [] [] 0 false 0 [] [x1.d,x2.d]),none))(h1:Ca E1 117 [.d x1.d] (.d (.t [z1.d,.v (.int .i64 7)]),none))(h2:Ca E1 124 [] (.d z2.d,none)) :
  Ca E1 17 [.d (rgD 6 [1,2]),.d (wD false [] [] 0 false 0 [] [x1.d,x2.d])] (.d (.t [wD false [] [] 0 false 0 [] [],.v (.int .i64 7)]),none):=by
 obtain⟨m0,a0⟩:=tv.any;obtain⟨m1,k1⟩:=(Ca.up1 (Ca.of cl_kind1)).any;obtain⟨m2,k2⟩:=(Ca.up1 (Ca.of cl_kind2)).any;obtain⟨m3,s1⟩:=h1.any;obtain⟨m4,s2⟩:=run195 (x:=x2) h2;obtain⟨K,hK⟩:∃ K,K=1000+m0+m1+m2+m3+m4:=⟨_,rfl⟩
 replace a0:=a0 K (by omega);replace k1:=k1 K (by omega);replace k2:=k2 K (by omega);replace s1:=s1 K (by omega);replace s2:=fun B j hB m=>CL_mono (s2 B j hB 0) (show m4+0<=K+m by omega)
 have t31:=fun m=>CL_mono (rv_true (k:=6) (ps:=[1,2]) rfl 0) (show 0+500<=K+m by omega)
 obtain⟨x1s,x1l1,x1l2,x1c,x1b,x1u,x1p,x1ps,ex1⟩:=x1.wD_of;obtain⟨x2s,x2l1,x2l2,x2c,x2b,x2u,x2p,x2ps,ex2⟩:=x2.wD_of;obtain⟨z1s,z1l1,z1l2,z1c,z1b,z1u,z1p,z1ps,ez1⟩:=z1.wD_of;obtain⟨z2s,z2l1,z2l2,z2c,z2b,z2u,z2p,z2ps,ez2⟩:=z2.wD_of;simp only[ex1,ex2,ez1,ez2]at*;clear hK tv h1 h2 ex1 ex2 ez1 ez2;have c43:=fun n a b B=>CL_fn (E:=E1) (n:=n) (args:=[a,b]) (B:=B) rfl (k43:E1.fn _=_) rfl
 have c52:=fun n a b c d B=>CL_fn (E:=E1) (n:=n) (args:=[a,b,c,d]) (B:=B) rfl (k52:E1.fn _=_) rfl
 refine Ca.ofS (n:=K+500) ?_;rw[CL_fn rfl (k17:E1.fn _=_) rfl];unfold kindV1 alg1 kindV2 kindB2 kindL2 at*;unfold wD rgD at*;simp only[show LK .i64 [1,2]=[.v (.int .i64 1),.v (.int .i64 2)] from rfl]at*;simp (maxSteps:=1000000) -implicitDefEqProofs [EX_loop,f17,f43,f52,c43,c52,t31,a0,k1,k2,s1,s2,FV.toOld,FV.toOldL,FV.shift,FV.shiftL,AObj.shift,AObj.toOld,mkT,most,wr1,wr2,wr3,AObj.view,callWild,localAll,checked,runLoad,bndB,Ref.abs]
theorem sim_star345 (x1 x2 x3 z1 z2 z3:W)(tv:Ca E1 41 [.d (rgD 6 [3,4,5]),.d (wD false [] [] 0 false 0 [] [x1.d,x2.d,x3.d])] (.d (wD false [] [] 0 false 0 [] [x1.d,x2.d,x3.d]),none))(h1:Ca E1 111 [] (.d z1.d,none))(h2:Ca E1 141 [] (.d z2.d,none))(h3:Ca E1 158 [.d x3.d] (.d (.t [z3.d,.v (.int .i64 0)]),none)) :
  Ca E1 17 [.d (rgD 6 [3,4,5]),.d (wD false [] [] 0 false 0 [] [x1.d,x2.d,x3.d])] (.d (.t [wD false [] [] 0 false 0 [] [z1.d,z2.d,z3.d],.v (.int .i64 0)]),none):=by
 obtain⟨m0,a0⟩:=tv.any;obtain⟨m1,k3⟩:=(Ca.up1 (Ca.of cl_kind3)).any;obtain⟨m2,k4⟩:=(Ca.up1 (Ca.of cl_kind4)).any;obtain⟨m3,k5⟩:=(Ca.up1 (Ca.of cl_kind5)).any;obtain⟨m4,s1⟩:=run195 (x:=x1) h1;obtain⟨m5,s2⟩:=run195 (x:=x2) h2;obtain⟨m6,s3⟩:=h3.any;obtain⟨K,hK⟩:∃ K,K=1000+m0+m1+m2+m3+m4+m5+m6:=⟨_,rfl⟩
 replace a0:=a0 K (by omega);replace k3:=k3 K (by omega);replace k4:=k4 K (by omega);replace k5:=k5 K (by omega);replace s1:=fun B j hB m=>CL_mono (s1 B j hB 0) (show m4+0<=K+m by omega)
 replace s2:=fun B j hB m=>CL_mono (s2 B j hB 0) (show m5+0<=K+m by omega)
 replace s3:=s3 K (by omega);have t31:=fun m=>CL_mono (rv_true (k:=6) (ps:=[3,4,5]) rfl 0) (show 0+500<=K+m by omega)
 obtain⟨x1s,x1l1,x1l2,x1c,x1b,x1u,x1p,x1ps,ex1⟩:=x1.wD_of;obtain⟨x2s,x2l1,x2l2,x2c,x2b,x2u,x2p,x2ps,ex2⟩:=x2.wD_of;obtain⟨x3s,x3l1,x3l2,x3c,x3b,x3u,x3p,x3ps,ex3⟩:=x3.wD_of;obtain⟨z1s,z1l1,z1l2,z1c,z1b,z1u,z1p,z1ps,ez1⟩:=z1.wD_of;obtain⟨z2s,z2l1,z2l2,z2c,z2b,z2u,z2p,z2ps,ez2⟩:=z2.wD_of;obtain⟨z3s,z3l1,z3l2,z3c,z3b,z3u,z3p,z3ps,ez3⟩:=z3.wD_of;simp only[ex1,ex2,ex3,ez1,ez2,ez3]at*;clear hK tv h1 h2 h3 ex1 ex2 ex3 ez1 ez2 ez3;have c43:=fun n a b B=>CL_fn (E:=E1) (n:=n) (args:=[a,b]) (B:=B) rfl (k43:E1.fn _=_) rfl
 have c52:=fun n a b c d B=>CL_fn (E:=E1) (n:=n) (args:=[a,b,c,d]) (B:=B) rfl (k52:E1.fn _=_) rfl
 refine Ca.ofS (n:=K+500) ?_;rw[CL_fn rfl (k17:E1.fn _=_) rfl];unfold kindV3 kindB3 kindL3 kindV4 kindB4 kindL4 kindV5 at*;unfold wD rgD at*;simp only[show LK .i64 [3,4,5]=[.v (.int .i64 3),.v (.int .i64 4),.v (.int .i64 5)] from rfl]at*;simp (maxSteps:=1000000) -implicitDefEqProofs [EX_loop,f17,f43,f52,c43,c52,t31,a0,k3,k4,k5,s1,s2,s3,FV.toOld,FV.toOldL,FV.shift,FV.shiftL,AObj.shift,AObj.toOld,mkT,most,wr1,wr2,wr3,AObj.view,callWild,localAll,checked,runLoad,bndB,Ref.abs]
end Fi.S
noncomputable section
namespace Fi.S
open Go Fi
set_option maxHeartbeats 8000000
set_option maxRecDepth 10000
def StarC (k:Int)(x s:W):Prop :=
 if k=1 then Ca E1 117 [.d x.d] (.d (.t [s.d,.v (.int .i64 0)]),none)
 else if k=5 then Ca E1 158 [.d x.d] (.d (.t [s.d,.v (.int .i64 0)]),none)
 else if k=2 then Ca E1 124 [] (.d s.d,none)
 else if k=3 then Ca E1 111 [] (.d s.d,none)
 else Ca E1 141 [] (.d s.d,none)
def uoB (g:Nat)(k:Int):Bool:=match callN E0 3000 g [] [] with
 | some (.d z,none)=>sameD z (olit k)
 | _=>false
theorem uo2:uoB 124 2=true:=by kernel_rfl
theorem uo3:uoB 111 3=true:=by kernel_rfl
theorem uo4:uoB 141 4=true:=by kernel_rfl
theorem uo_run {g:Nat}{k:Int}(hk:single k=true)(h:uoB g k=true):Ca E1 g [] (.d (oneK k).w.d,none):=by
 unfold uoB at h;split at h
 ·rename_i z hz;rw[oneK_d hk,<-sameD_eq h];exact Ca.up1 (Ca.of hz)
 ·cases h
structure StarOK (k:Int)(x s:Sv):Prop where
 c:StarC k x.w s.w
 so:s.of k 902 7
 to:(timesK x s).of k 902 14
 law:plusK k (oneK k) (timesK x s)=s
theorem star_unit {k:Int}(hk:single k=true)(h1:k≠1)(h5:k≠5){x:Sv}(hx:x.of k 9 2)(hp:plusK k (oneK k) x=oneK k):StarOK k x (oneK k):=by
 have e:=times_one hk (by omega) hx;refine⟨?_,oneK_of hk 902 7 (by omega) (by omega),by rw[e];exact hx.mono (by omega) (by omega),by rw[e,hp]⟩;unfold StarC;rw[if_neg h1,if_neg h5];rcases single_five hk with rfl|rfl|rfl|rfl|rfl
 ·exact absurd rfl h1
 ·exact uo_run rfl uo2
 ·exact uo_run rfl uo3
 ·exact uo_run rfl uo4
 ·exact absurd rfl h5
theorem star_q {x:Rat}(hx:qz x<=9)(h:x.abs<1):StarOK 1 (.q x) (.q (1 / (1-x))):=by
 have h1:=qz_one;have h2:=qz_sub 1 x;have hne:(1:Rat)-x≠0:=by
  intro h0;have:x=1:=by grind
  rw[this]at h;exact absurd h (by decide)
 have h3:=qz_div 1 (1-x) hne;have h4:=qz_mul x (1 / (1-x));have hc:=ca_quot x (by omega);rw[if_pos h]at hc;refine⟨hc,⟨.inl rfl,by omega⟩,⟨.inl rfl,show qz (x*(1 / (1-x)))<=_ by omega⟩,?_⟩;show Sv.q (1+x*(1 / (1-x)))=_;have h5:(1 / (1-x))*(1-x)=1:=by
  rw[Rat.div_def,Rat.one_mul];exact Rat.inv_mul_cancel _ hne
 congr 1
 grind
theorem star_p (v:Int):StarOK 5 (.p (madeP v)) (.p (starP (madeP v))):=by
 obtain⟨hp,hl⟩:=madeP_pv v;have hr:=(made_rest v).1;obtain⟨hs,hr19,ht⟩:=star_ok hp hl hr;have hc:=made_low v;have hcn:lowP (madeP v)≠1:=by
  intro h0;rw[h0]at hc;exact absurd hc (by decide)
 have hall:(madeP v++constP (-lowP (madeP v))).length*(9+1)<=50000:=by
  have:=const_len (-lowP (madeP v));rw[List.length_append];omega
 have hca:=ca_pstar hp (by omega) (by omega) (by omega) (by omega) hc (hr19.mono (by omega)) (by omega) (Nat.le_trans (Nat.mul_le_mul_right (1*(2*900+1)) hr) (by omega)) hall hs;have hso:PV 900 (starP (madeP v)):=hs.so 6 (by omega);have hlen:(starP (madeP v)).length<=7:=so_len hp hl hr;have law:=star_law hp.pv hcn;have htot:∀ e,tot (mulP (madeP v) (starP (madeP v))) e=tot (starP (madeP v)) e-tot (constP 1) e:=fun e=>by
  have:=congrArg (fun l=>tot l e) law;simp only[addP_tot]at this;rw[<-this];grind
 have hto:PV 902 (mulP (madeP v) (starP (madeP v))):=by
  obtain⟨T,_,hm⟩:=hp.pv.mul hso.pv;refine⟨hm.srt,hm.nz,hm.fits,fun p hp' => ?_⟩;rw[<-tot_mem (srt_keys hm.srt) hp',htot];have h1:=tot_bd (by omega) (srt_keys hso.srt) hso.bd p.1;have h2:qz (tot (constP 1) p.1)<=1:=by
   have hc1:=constP_pv (x:=1) qz_one;exact tot_bd (by omega) (srt_keys hc1.srt) hc1.bd _
  have h3:=qz_sub (tot (starP (madeP v)) p.1) (tot (constP 1) p.1);omega
 have htl:(mulP (madeP v) (starP (madeP v))).length<=14:=Nat.le_trans (mulP_length _ _) (Nat.le_trans (Nat.mul_le_mul hl hlen) (by omega));refine⟨ca_star5 hca,⟨rfl,hso.mono (by omega),by omega⟩,⟨rfl,hto,htl⟩,?_⟩;show Sv.p (addP (constP 1) (mulP (madeP v) (starP (madeP v))))=_;rw[law]
theorem made_star {k:Int}(hk:single k=true)(v:Int)(h:k=1->(numQ v).abs<1):∃ s,StarOK k (madeS k v) s:=by
 have ho:=made_of hk v;rcases single_five hk with rfl|rfl|rfl|rfl|rfl
 ·exact⟨_,star_q ho.2 (h rfl)⟩
 ·refine⟨_,star_unit hk (by decide) (by decide) ho ?_⟩;obtain⟨i,n,e,h0,h1,h2⟩:=of2 ho;rw[e];show(if lessC i n false 0 then Sv.c i n else .c false 0)=.c false 0;have:lessC i n false 0=false:=by
   unfold lessC;have:¬ n<0:=by omega
   simp[this]
  rw[this];rfl
 ·refine⟨_,star_unit hk (by decide) (by decide) ho ?_⟩;obtain⟨q,e,h0,h1,_⟩:=of3 ho;rw[e];show plusK 3 (.q 1) (.q q)=.q 1;rw[pl3,if_neg (by grind)]
 ·refine⟨_,star_unit hk (by decide) (by decide) ho ?_⟩;obtain⟨u,e,hu⟩:=of4 ho;rw[e];show Sv.s (orV .u64 18446744073709551615 u)=.s 18446744073709551615
  congr 1
  rw[or_nat];have h0:BitVec.ofInt 64 18446744073709551615=BitVec.allOnes 64:=by decide
  rw[h0,BitVec.allOnes_or];rfl
 ·exact⟨_,star_p v⟩
end Fi.S
noncomputable section
namespace Fi.S
open Go Fi
set_option maxHeartbeats 8000000
set_option maxRecDepth 10000
def noW:W:=(Sv.q 0).w
theorem noW_d:noW.d=wD false [] [] 0 false 0 [] []:=zeroK_d 1
theorem star_bad {x:Rat}(hx:qz x<=9)(h:¬ x.abs<1):Ca E1 117 [.d (Sv.q x).w.d] (.d (.t [noW.d,.v (.int .i64 7)]),none):=by
 have hc:=ca_quot x (by omega);rw[if_neg h]at hc;exact hc
def StarR (kk:Int)(ps:List Int)(xs:List Sv):Prop :=
 (∃ ss,Ofs 902 7 (ksO kk ps) ss/\Ofs 902 14 (ksO kk ps) (timesL xs ss)/\plusL (ksO kk ps) ((ksO kk ps).map oneK) (timesL xs ss)=ss /\
  Ca E1 17 [.d (rgD kk ps),.d (mkW kk xs).d] (.d (.t [(mkW kk ss).d,.v (.int .i64 0)]),none)) \/
 ((kk=1\/kk=6)/\Ca E1 17 [.d (rgD kk ps),.d (mkW kk xs).d] (.d (.t [noW.d,.v (.int .i64 7)]),none))
theorem starR_one {k:Int}(hk:single k=true){x s:Sv}(h:StarOK k x s)(hc:Ca E1 17 [.d (rgD k []),.d x.w.d] (.d (.t [s.w.d,.v (.int .i64 0)]),none)):StarR k [] [x]:=by
 have h6:=(single_valid hk).2;refine .inl ⟨[s],ofs_one hk h.so,ofs_one hk h.to,?_,?_⟩
 ·unfold ksO;rw[if_neg h6];show [plusK k (oneK k) (timesK x s)]=[s]
  rw[h.law]
 ·rw[mk_one hk,mk_one hk];exact hc
theorem ofs_two {a b:Int}{S M:Nat}{x y:Sv}(hx:x.of a S M)(hy:y.of b S M):Ofs S M [a,b] [x,y]:=⟨rfl,fun i k z h1 h2=>by
 match i with
 | 0=>cases h1;cases h2;exact hx
 | 1=>cases h1;cases h2;exact hy
 | i+2=>cases h1⟩
theorem ofs_three {a b c:Int}{S M:Nat}{x y z:Sv}(hx:x.of a S M)(hy:y.of b S M)(hz:z.of c S M):Ofs S M [a,b,c] [x,y,z]:=⟨rfl,fun i k u h1 h2=>by
 match i with
 | 0=>cases h1;cases h2;exact hx
 | 1=>cases h1;cases h2;exact hy
 | 2=>cases h1;cases h2;exact hz
 | i+3=>cases h1⟩
theorem wprod_d (xs:List Sv):(mkW 6 xs).d=wD false [] [] 0 false 0 [] (xs.map fun x=>x.w.d):=prod_d xs
theorem star_ring {kk:Int}{ps:List Int}(hr:(kk=6/\(ps=[1,2]\/ps=[3,4,5]))\/((kk=1\/kk=2\/kk=3\/kk=4\/kk=5)/\ps=[]))(hv:validRg kk ps=true)(v:Int):StarR kk ps (madeL kk ps v):=by
 have ho:=madeL_ofs hv v;have tv:=mk_value hv (by omega) ho;rcases hr with ⟨rfl,rfl|rfl⟩|⟨hkk,rfl⟩
 ·have e:madeL 6 [1,2] v=[madeS 1 (wrapS .i64 (v+(0:Nat))),madeS 2 (wrapS .i64 (v+(1:Nat)))]:=rfl;rw[e]at ho tv ⊢;generalize wrapS .i64 (v+(0:Nat))=v0 at*;generalize wrapS .i64 (v+(1:Nat))=v1 at*;obtain⟨s2,h2⟩:=made_star (k:=2) rfl v1 (fun h=>absurd h (by decide));have g1:=made_of (k:=1) rfl v0;have hc2:Ca E1 124 [] (.d s2.w.d,none):=h2.c;rw[wprod_d]at tv
  by_cases hb:(numQ v0).abs<1
  ·obtain⟨s1,h1⟩:=made_star (k:=1) rfl v0 (fun _=>hb);refine .inl ⟨[s1,s2],ofs_two h1.so h2.so,ofs_two h1.to h2.to,?_,?_⟩
   ·show [plusK 1 (oneK 1) (timesK _ s1),plusK 2 (oneK 2) (timesK _ s2)]=_;rw[h1.law,h2.law]
   ·rw[wprod_d,wprod_d];exact sim_star12 _ _ _ _ tv h1.c hc2
  ·refine .inr ⟨.inr rfl,?_⟩;rw[wprod_d,noW_d];exact sim_star12b _ _ noW _ tv (star_bad g1.2 hb) hc2
 ·have e:madeL 6 [3,4,5] v=[madeS 3 (wrapS .i64 (v+(0:Nat))),madeS 4 (wrapS .i64 (v+(1:Nat))),madeS 5 (wrapS .i64 (v+(2:Nat)))]:=rfl;rw[e]at ho tv ⊢;generalize wrapS .i64 (v+(0:Nat))=v0 at*;generalize wrapS .i64 (v+(1:Nat))=v1 at*;generalize wrapS .i64 (v+(2:Nat))=v2 at*;obtain⟨s1,h1⟩:=made_star (k:=3) rfl v0 (fun h=>absurd h (by decide));obtain⟨s2,h2⟩:=made_star (k:=4) rfl v1 (fun h=>absurd h (by decide));obtain⟨s3,h3⟩:=made_star (k:=5) rfl v2 (fun h=>absurd h (by decide));have hc1:Ca E1 111 [] (.d s1.w.d,none):=h1.c;have hc2:Ca E1 141 [] (.d s2.w.d,none):=h2.c;rw[wprod_d]at tv;refine .inl ⟨[s1,s2,s3],ofs_three h1.so h2.so h3.so,ofs_three h1.to h2.to h3.to,?_,?_⟩
  ·show [plusK 3 (oneK 3) (timesK _ s1),plusK 4 (oneK 4) (timesK _ s2),plusK 5 (oneK 5) (timesK _ s3)]=_;rw[h1.law,h2.law,h3.law]
  ·rw[wprod_d,wprod_d];exact sim_star345 _ _ _ _ _ _ tv hc1 hc2 h3.c
 ·have hk:single kk=true:=by rcases hkk with rfl|rfl|rfl|rfl|rfl<;>rfl
  have e:madeL kk [] v=[madeS kk v]:=if_neg (single_valid hk).2;rw[e,mk_one hk]at tv;rw[e];rcases hkk with rfl|rfl|rfl|rfl|rfl
  ·have g1:=made_of (k:=1) rfl v
   by_cases hb:(numQ v).abs<1
   ·obtain⟨s,h⟩:=made_star (k:=1) rfl v (fun _=>hb);exact starR_one rfl h (sim_star1 _ _ _ 0 tv h.c)
   ·refine .inr ⟨.inl rfl,?_⟩;rw[mk_one rfl];exact sim_star1 _ _ noW 7 tv (star_bad g1.2 hb)
  ·obtain⟨s,h⟩:=made_star (k:=2) rfl v (fun h=>absurd h (by decide));exact starR_one rfl h (sim_star2 _ _ _ tv h.c)
  ·obtain⟨s,h⟩:=made_star (k:=3) rfl v (fun h=>absurd h (by decide));exact starR_one rfl h (sim_star3 _ _ _ tv h.c)
  ·obtain⟨s,h⟩:=made_star (k:=4) rfl v (fun h=>absurd h (by decide));exact starR_one rfl h (sim_star4 _ _ _ tv h.c)
  ·obtain⟨s,h⟩:=made_star (k:=5) rfl v (fun h=>absurd h (by decide));exact starR_one rfl h (sim_star5 _ _ _ 0 tv h.c)
def woB (k:Int)(ps:List Int):Bool :=
 match callN E6 3000 20 [.d (rgD k ps)] [] with
 | some (.d z,none)=>sameD z (olitD k ps)
 | _=>false
theorem wo_1:(woB 1 []&&woB 2 []&&woB 3 []&&woB 4 []&&woB 5 []&&woB 6 [1,2]&&woB 6 [3,4,5])=true:=by kernel_rfl
theorem ca_wonesM (k:Int):Ca E1 20 [.d (rgD (ringK k) (ringP k))] (.d (mkW (ringK k) ((ksO (ringK k) (ringP k)).map oneK)).d,none):=by
 obtain⟨K,hK⟩:=has_const;rw[ones_d (ring_valid k)];have main:∀ {a:Int} {b:List Int},woB a b=true->Ca E1 20 [.d (rgD a b)] (.d (olitD a b),none):=by
  intro a b h;unfold woB at h;split at h
  ·rename_i z hz;rw[<-sameD_eq h];exact Ca.of (callN_has hK hz)
  ·cases h
 have hw:=wo_1;simp only[Bool.and_eq_true]at hw;obtain⟨⟨⟨⟨⟨⟨w1,w2⟩,w3⟩,w4⟩,w5⟩,w6⟩,w7⟩:=hw;rcases ring_cases k with ⟨h1,h2|h2⟩|⟨h1|h1|h1|h1|h1,h2⟩<;>rw[h1,h2]
 ·exact main w6
 ·exact main w7
 ·exact main w1
 ·exact main w2
 ·exact main w3
 ·exact main w4
 ·exact main w5
end Fi.S
namespace Fi.S
open Go Fi
set_option maxHeartbeats 8000000
attribute [local simp] oo og ci ml mv ld lf fa lo st0 cl ia lr fl ln sv fb mF mi mn bx bc bl pF pT sl EX_skip EX_ret EX_exit EX_kill EX_seq EX_cond EX_block EX_region ROps_nil ROps_cons RK_mov RK_pick RK_bin RK_conv RK_beq RK_aeq RK_nileq RK_un RK_box RK_new RK_load RK_store RK_faddr RK_field RK_iaddr RK_aaddr RK_index RK_build RK_lit RK_len RK_maxi RK_mini RK_app RK_slice RK_mk RK_ext RK_clo RK_call RK_callv RK_callr RK_callw RK_loadl RK_mkmap RK_mget RK_mput RK_cap RK_appz callFull RK_slen RK_sindex RK_sslice guardV runK argV argsV doCall callPure D.cells FV.cells FV.one D.one oneV St.push St.heap St.setHeap splice partF partD s_add s_sub s_mul s_quo s_rem s_or s_and s_xor s_shl s_shr s_eql s_neq s_lss s_leq s_gtr s_geq unV setVars killVars apartOk finish ressV resV leavesL leaves leaveL leave1 allD mkA fillF finish2 isPure oneOf freezeAll FV.rows FV.rows1 D.norm D.norm1 scalar D.isV FV.shift FV.shiftL AObj.shift pureElem fillE elems FStmt.l FStmt.r FStmt.bl FStmt.lp
set_option maxRecDepth 10000
theorem law4_bad (hA:Ca E1 11 [] (.d (.v (.bool true)),none))(k v kk:Int)(ps:List Int)(A:W)(hkk:kk=1\/kk=6)
  (r1:Ca E1 15 [.d (.v (.int .i64 k))] (.d (rgD kk ps),none)) (r2:Ca E1 16 [.d (rgD kk ps),.d (.v (.int .i64 v))] (.d A.d,none)) (r3:Ca E1 17 [.d (rgD kk ps),.d A.d] (.d (.t [noW.d,.v (.int .i64 7)]),none)) :
  Ca E1 4 [.d (.v (.int .i64 k)),.d (.v (.int .i64 v))] (.d (.v (.bool true)),none):=by
 obtain⟨n0,t0⟩:=hA.any;obtain⟨n1,t1⟩:=r1.any;obtain⟨n2,t2⟩:=r2.any;obtain⟨n3,t3⟩:=r3.any;obtain⟨K,hK⟩:∃ K,K=n0+n1+n2+n3:=⟨_,rfl⟩
 replace t0:=t0 K (by omega);replace t1:=t1 K (by omega);replace t2:=t2 K (by omega);replace t3:=t3 K (by omega);obtain⟨A1,A2,A3,A4,A5,A6,A7,A8,eA⟩:=A.wD_of;clear hK hA r1 r2 r3;simp only[eA,noW_d,wD,rgD]at t1 t2 t3;clear eA;refine Ca.ofS (n:=K+300) ?_;rw[CL_fn rfl (k4:E1.fn _=_) rfl];generalize LK .i64 ps=l1 at*;rcases hkk with rfl|rfl<;>simp (maxSteps:=2000000) -implicitDefEqProofs [f4,t0,t1,t2,t3]
theorem law4_good (hA:Ca E1 11 [] (.d (.v (.bool true)),none))(k v kk:Int)(ps:List Int)(A S O T:W)
  (r1:Ca E1 15 [.d (.v (.int .i64 k))] (.d (rgD kk ps),none)) (r2:Ca E1 16 [.d (rgD kk ps),.d (.v (.int .i64 v))] (.d A.d,none)) (r3:Ca E1 17 [.d (rgD kk ps),.d A.d] (.d (.t [S.d,.v (.int .i64 0)]),none))
  (q1:Ca E1 18 [.d (rgD kk ps),.d S.d] (.d (.v (.bool true)),none)) (q2:Ca E1 20 [.d (rgD kk ps)] (.d O.d,none)) (q3:Ca E1 21 [.d (rgD kk ps),.d A.d,.d S.d] (.d T.d,none))
  (q4:Ca E1 19 [.d (rgD kk ps),.d O.d,.d T.d] (.d S.d,none)) (q5:Ca E1 12 [.d S.d,.d S.d] (.d (.v (.bool true)),none)) :
  Ca E1 4 [.d (.v (.int .i64 k)),.d (.v (.int .i64 v))] (.d (.v (.bool true)),none):=by
 obtain⟨n0,t0⟩:=hA.any;obtain⟨n1,t1⟩:=r1.any;obtain⟨n2,t2⟩:=r2.any;obtain⟨n3,t3⟩:=r3.any;obtain⟨n4,t4⟩:=q1.any;obtain⟨n5,t5⟩:=q2.any;obtain⟨n6,t6⟩:=q3.any;obtain⟨n7,t7⟩:=q4.any;obtain⟨n8,t8⟩:=q5.any;obtain⟨K,hK⟩:∃ K,K=n0+n1+n2+n3+n4+n5+n6+n7+n8:=⟨_,rfl⟩
 replace t0:=t0 K (by omega);replace t1:=t1 K (by omega);replace t2:=t2 K (by omega);replace t3:=t3 K (by omega);replace t4:=t4 K (by omega);replace t5:=t5 K (by omega);replace t6:=t6 K (by omega);replace t7:=t7 K (by omega);replace t8:=t8 K (by omega);obtain⟨A1,A2,A3,A4,A5,A6,A7,A8,eA⟩:=A.wD_of;obtain⟨S1,S2,S3,S4,S5,S6,S7,S8,eS⟩:=S.wD_of;obtain⟨O1,O2,O3,O4,O5,O6,O7,O8,eO⟩:=O.wD_of;obtain⟨T1,T2,T3,T4,T5,T6,T7,T8,eT⟩:=T.wD_of;clear hK hA r1 r2 r3 q1 q2 q3 q4 q5;simp only[eA,eS,eO,eT,wD,rgD]at t1 t2 t3 t4 t5 t6 t7 t8;clear eA eS eO eT;refine Ca.ofS (n:=K+300) ?_;rw[CL_fn rfl (k4:E1.fn _=_) rfl];generalize LK .i64 ps=l1 at*;simp (maxSteps:=2000000) -implicitDefEqProofs [f4,t0,t1,t2,t3,t4,t5,t6,t7,t8,norm_a]
theorem ca_law4 (hA:Ca E1 11 [] (.d (.v (.bool true)),none))(k v:Int)(hk:i64r k)(hv:i64r v):Ca E1 4 [.d (.v (.int .i64 k)),.d (.v (.int .i64 v))] (.d (.v (.bool true)),none):=by
 have hvr:=ring_valid k;have hs:=ks_single hvr;have oA:=madeL_ofs hvr v;have r1:=Ca.up1 (ca_ring k hk);have r2:=ca_madeM hvr v hv;have q2:=ca_wonesM k;rcases star_ring (ring_cases k) hvr v with ⟨ss,o1,o2,law,r3⟩|⟨hkk,r3⟩
 ·have oO:=ones_ofs (S:=902) (M:=14) (by omega) (by omega) hs;have oA2:Ofs 902 2 _ (madeL (ringK k) (ringP k) v):=oA.mono (by omega) (by omega);have q1:=Ca.up1 (ca_Check (ringK k) (ringP k) _ (len_ps hvr) (mk_ok hvr (by omega) o1));rw[mk_check hvr o1]at q1;have q3:=mk_wtimes (M:=2) (N:=7) hvr (by omega) (by omega) (by omega) oA2 o1;have q4:=mk_wplus hvr (by omega) (by omega) oO o2;rw[law]at q4;exact law4_good hA k v _ _ _ _ _ _ r1 r2 r3 q1 q2 q3 q4 (mk_same hvr (by omega) o1)
 ·exact law4_bad hA k v _ _ _ hkk r1 r2 r3
end Fi.S
