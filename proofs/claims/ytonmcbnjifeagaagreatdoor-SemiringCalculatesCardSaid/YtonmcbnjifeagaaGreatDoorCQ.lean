/- Stars of polynomials. -/
import Derived.Test.YtonmcbnjifeagaaGreatDoorCP
set_option linter.unusedVariables false
set_option linter.unusedSimpArgs false
noncomputable section
namespace Fi.S
open Go Fi
set_option maxHeartbeats 1000000
section
def Pv (l:List aJ):Prop:=∃ S,1<=S/\PV S l
theorem PV.pv {S:Nat}{l:List aJ}(h:PV S l):Pv l:=⟨S+1,by omega,h.mono (by omega)⟩
theorem Pv.two {a b:List aJ}(ha:Pv a)(hb:Pv b):∃ S,1<=S/\PV S a/\PV S b:=by
 obtain⟨S,h1,h2⟩:=ha;obtain⟨T,g1,g2⟩:=hb;exact⟨S+T,by omega,h2.mono (by omega),g2.mono (by omega)⟩
theorem Pv.add {a b:List aJ}(ha:Pv a)(hb:Pv b):Pv (fF a b):=by
 obtain⟨S,h,ha,hb⟩:=ha.two hb;exact(kR h h ha hb).pv
theorem Pv.mul {a b:List aJ}(ha:Pv a)(hb:Pv b):Pv (dU a b):=by
 obtain⟨S,h,ha,hb⟩:=ha.two hb;exact(uh h ha hb).pv
theorem Pv.const (x:Rat):Pv (bB x):=(jk (Nat.le_refl _)).pv
theorem Pv.ext {a b:List aJ}(ha:Pv a)(hb:Pv b)(h:∀ e,tot a e=tot b e):a=b:=by
 obtain⟨S,_,ha,hb⟩:=ha.two hb;exact PV.ext ha hb h
theorem Pv.comm {a b:List aJ}(ha:Pv a)(hb:Pv b):dU a b=dU b a:=by
 obtain⟨S,h,ha,hb⟩:=ha.two hb;exact LQ h ha hb
theorem vI (x:Rat)(e:d_):tot (bB x) e=if e=(0,0,0) then x else 0:=by
 unfold bB
 by_cases h:x=0
 ·rw[if_pos h,h];simp[tot]
 ·rw[if_neg h];simp only[tot]
  by_cases h2:e=(0,0,0)
  ·subst h2;simp;grind
  ·rw[if_neg (fun h3=>h2 h3.symm),if_neg h2];grind
theorem LX (x:Rat){a:List aJ}(ha:Pv a)(e:d_):tot (dU (bB x) a) e=x*tot a e:=by
 obtain⟨S,_,ha⟩:=ha;rw[JZ];have h0:(if aX e=true then tot a e else 0)=tot a e:=by
  split
  ·rfl
  ·rename_i hf;exact(gL fun p hp hpe=>hf (by rw[<-hpe];exact ha.fits p hp)).symm
 have hc:cv (bB x) (tot a) e=x*tot a e:=by
  unfold bB
  by_cases h:x=0
  ·rw[if_pos h,h];simp only[cv];grind
  ·rw[if_neg h];have h3:((e.1-0,e.2.1-0,e.2.2-0):d_)=e:=by
    obtain⟨x,y,z⟩:=e;simp
   simp only[cv,h3];grind
 rw[hc,<-h0];split<;>grind
def bV (p:List aJ):Rat:=tot p (0,0,0)
def lK (p:List aJ):List aJ:=fF p (bB (-bV p))
def bu (p:List aJ)(t:Rat):List aJ:=dU (lK p) (bB t)
def zJ (t:Rat)(n:List aJ):Nat->List aJ
 | 0=>bB t
 | k+1=>dU (zJ t n k) n
def Dv (t:Rat)(n:List aJ):Nat->List aJ
 | 0=>bB t
 | k+1=>fF (Dv t n k) (zJ t n (k+1))
def aW (p:List aJ):Rat:=1 / (1-bV p)
def nY (p:List aJ):List aJ:=Dv (aW p) (bu p (aW p)) 6
theorem FT (p:List aJ)(e:d_):tot (lK p) e=if e=(0,0,0) then 0 else tot p e:=by
 unfold lK;rw[mq,vI]
 by_cases h:e=(0,0,0)
 ·subst h;simp only[if_true,bV];grind
 ·simp only[if_neg h];grind
section law
variable {p:List aJ} (hp:Pv p)
include hp
theorem qF:Pv (lK p):=hp.add (Pv.const _)
theorem um (t:Rat):Pv (bu p t):=(qF hp).mul (Pv.const _)
theorem BL (t:Rat):∀ k,Pv (zJ t (bu p t) k)
 | 0=>Pv.const _
 | k+1=>(BL t k).mul (um hp t)
theorem Qo (t:Rat):∀ k,Pv (Dv t (bu p t) k)
 | 0=>Pv.const _
 | k+1=>(Qo t k).add (BL hp t (k+1))
end law
def Dg (k:Int)(l:List aJ):Prop:=∀ p ∈ l,k<=p.1.1+p.1.2.1+p.1.2.2
theorem J6 {a:List aJ}(ha:Pv a){p:aJ}(hp:p ∈ a):tot a p.1≠0:=by
 obtain⟨S,_,ha⟩:=ha;rw[lG (dG ha.zi) hp];exact ha.nz p hp
theorem Dg.mul {j k:Int}{a b:List aJ}(ha:Pv a)(hb:Pv b)(h1:Dg j a)(h2:Dg k b):Dg (j+k) (dU a b):=by
 intro p hp;have h:=J6 (ha.mul hb) hp;rw[pz]at h
 by_cases he:∃ x ∈ dz a b,x.1=p.1
 ·obtain⟨x,hx,hxe⟩:=he;obtain⟨y,hy,hx⟩:=List.mem_flatMap.1 hx;obtain⟨z,hz,rfl⟩:=List.mem_map.1 (List.mem_filter.1 hx).1;have g1:=h1 y hy;have g2:=h2 z hz;rw[<-hxe];simp only[bY];omega
 ·exact absurd (gL fun x hx hxe=>he ⟨x,hx,hxe⟩) h
theorem Dg.const (x:Rat):Dg 0 (bB x):=by
 intro p hp;unfold bB at hp;split at hp
 ·cases hp
 ·rw[List.mem_singleton]at hp;subst hp;simp
theorem Dg.rest {p:List aJ}(hp:Pv p):Dg 1 (lK p):=by
 intro x hx;have h1:=J6 (qF hp) hx;rw[FT]at h1;obtain⟨S,_,hr⟩:=qF hp;have h2:=cZ (hr.fits x hx)
 by_cases h:x.1=(0,0,0)
 ·rw[if_pos h]at h1;exact absurd rfl h1
 ·by_cases h3:x.1.1+x.1.2.1+x.1.2.2<1
  ·exact absurd (show x.1=(0,0,0) by
    obtain⟨⟨a,b,c⟩,y⟩:=x;simp only[Prod.mk.injEq]at*;omega) h
  ·omega
theorem Dg.pw {p:List aJ}(hp:Pv p)(t:Rat):∀ k:Nat,Dg k (zJ t (bu p t) k)
 | 0=>Dg.const t
 | k+1=>by
  have h1:Dg 1 (bu p t):=by
   have:=Dg.mul (qF hp) (Pv.const t) (Dg.rest hp) (Dg.const t);show Dg 1 (dU _ _);simpa using this
  have:=Dg.mul (BL hp t k) (um hp t) (Dg.pw hp t k) h1;show Dg ((k+1:Nat):Int) (dU _ _);simpa using this
theorem Dg.nil {l:List aJ}(hl:Pv l)(h:Dg 6 l):l=[]:=by
 obtain⟨S,_,hl⟩:=hl;cases l with
 | nil=>rfl
 | cons x r =>
  have h1:=h x (List.mem_cons_self ..);have h2:=cZ (hl.fits x (List.mem_cons_self ..));omega
theorem Qp {p:List aJ}(hp:Pv p)(t:Rat):zJ t (bu p t) 6=[]:=Dg.nil (BL hp t 6) (Dg.pw hp t 6)
end
end Fi.S
namespace Fi.S
open Go Fi
set_option maxHeartbeats 8000000
set_option maxRecDepth 10000
def Ud:aD:=f209.body.r.l.r.bl.lp
def LY (es:List D)(i:Nat)(t:FV)(L:List ae):St:=(st0 [.u,.r (.loc 0) 0,.u,.d (.s 6 es),.d (.v (.int .i64 es.length)),.d (.v (.int .i64 i)),t,.u] L)
def LZ:ae:=.box [.d (.v (.bool false)),.d (.n 1),.d (.n 1)]
def Z7 (x:Rat)(L:List ae):St:=(st0 [.u,.r (.loc 0) 0,.u,.u,.u,.u,.u,.u] (L.set 0 (.box [.d (.v (.bool (qs x))),.d (LD (qn x)),.d (LD (qd x))])))
theorem Qq {e:d_}(h:aX e=true):ni e=0↔e=(0,0,0):=by
 have h2:=cZ h;have h3:ni e=e.1+e.2.1+e.2.2:=Fj ⟨by omega,by omega⟩ ⟨by omega,by omega⟩ ⟨by omega,by omega⟩;rw[h3];obtain⟨a,b,c⟩:=e;simp only[Prod.mk.injEq]at*;omega
theorem Qr (es:List D)(i:Nat)(p:aJ)(L:List ae)(hi:es[i]?=some (qC p.1 p.2))(hn:es.length<=100000000)(hf:aX p.1=true)(hq:qz p.2<=9000000)(h0:L[0]?=some LZ) :
  if p.1=(0,0,0) then ∃ L',Ex E1 Ud (LY es i .u L) (.ret,Z7 p.2 (L++L')) else ∃ b,Ex E1 Ud (LY es i .u L) (.norm,LY es (i+1) .u (L++[b])):=by
 have hil:i<es.length:=(bE hi)
 have bg:af .i64 ((i:Int)+1)=(i:Int)+1:=wrap_i64 (by omega);have hk1:((i+1:Nat):Int)=(i:Int)+1:=by omega
 have hk0:(0:Int)<=(i:Int):=by omega
 have hkc:(i:Int)<(es.length:Int):=by omega
 have hLl:0<L.length:=(bE h0)
 have g0:∀ X,(L++X)[0]?=some LZ:=fun X=>by rw[List.getElem?_append_left hLl];exact h0
 have hz:=fE;obtain⟨n1,t1⟩:=(Ca.dO (sQ p.2 0 (by omega) (by omega))).any;rw[Rat.add_zero,iM]at t1;obtain⟨n2,t2⟩:=(Ca.dO (Ca.a_ (rF 0 p.1))).any;obtain⟨K,hK⟩:∃ K,K=n1+n2:=⟨_,rfl⟩
 replace t1:=t1 K (by omega);replace t2:=t2 K (by omega);have hd:=Qq hf;obtain⟨⟨a,b,c⟩,x⟩:=p;simp only at hf hd;unfold Z7;simp only[qC,wX,qD,raw,LD,iG]at*;generalize qs x=s,LL (qn x)=ns,LL (qd x)=ds at*;generalize hdg:ni (a,b,c)=dg at*;have i1:=idx hi;unfold LZ at*;have j0:=idx h0;have gi:∀ X (h:0<(L++X).length),(L++X)[0]=_:=fun X h=>idx (g0 X) h
 by_cases h:((a,b,c):d_)=(0,0,0)
 ·rw[if_pos h];have Ue:dg=0:=hd.2 h;refine⟨[.box [.d (.v (.int .i64 a)),.d (.v (.int .i64 b)),.d (.v (.int .i64 c)),.d (.v (.bool s)),.d (.s 1 ns),.d (.s 1 ds)]],Ex.of (n:=K+100) ?_⟩;unfold LY;simp -implicitDefEqProofs [Ud,f209,hk0,hkc,hil,hi,i1,t1,t2,Ue,g0,gi,hLl]
 ·rw[if_neg h];have Ue:dg≠0:=fun h3=>h (hd.1 h3)
  have acO:(dg==0)=false:=by simpa using Ue
  refine⟨.box [.d (.v (.int .i64 a)),.d (.v (.int .i64 b)),.d (.v (.int .i64 c)),.d (.v (.bool s)),.d (.s 1 ns),.d (.s 1 ds)],Ex.of (n:=K+100) ?_⟩;unfold LY;rw[hk1];simp -implicitDefEqProofs [Ud,f209,bg,hk0,hkc,hil,hi,i1,t1,t2,Ue,acO,g0,gi,hLl]
theorem Uf {S:Nat}{l:List aJ}(h:PV S l)(hS:S<=100000) :
  ∃ r,Ex E1 (.loop Ud) (LY (l.map fun p=>qC p.1 p.2) 0 .u [LZ]) r/\((∃ L,r=(.ret,Z7 (bV l) L)/\0<L.length)\/(bV l=0/\∃ L,r=(.exit 0,LY (l.map fun p=>qC p.1 p.2) l.length (.d (.v (.bool false))) L)/\L[0]?=some LZ)):=by
 have hlen:(l.map fun p=>qC p.1 p.2).length=l.length:=by simp
 have hll:=h.length;refine Ex.inv (E:=E1) (b:=Ud) (α:=Nat × List ae) (S:=fun a=>LY (l.map fun p=>qC p.1 p.2) a.1 .u a.2) (fun a=>l.length-a.1)
  (fun a=>a.1<=l.length/\a.2[0]?=some LZ/\∀ p ∈ l.take a.1,p.1≠(0,0,0)) _ (by
   rintro⟨i,L⟩ ⟨q1,q2,q3⟩;simp only at q1 q2 q3
   by_cases hi:i<l.length
   ·have hp:l[i]?=some l[i]:=List.getElem?_eq_getElem hi;have hp2:(l.map fun p=>qC p.1 p.2)[i]?=some (qC l[i].1 l[i].2):=by rw[List.getElem?_map,hp];rfl
    have hm:=List.getElem_mem hi;have hr:=Qr _ i l[i] L hp2 (by rw[hlen];omega) (h.fits _ hm) (by have:=h.bd _ hm;omega) q2
    by_cases hz:l[i].1=(0,0,0)
    ·rw[if_pos hz]at hr;obtain⟨L',hr⟩:=hr;refine .inr ⟨_,hr,by simp,.inl ⟨L++L',?_,?_⟩⟩
     ·have:=lG (dG h.zi) hm;rw[hz]at this;unfold bV;rw[this]
     ·have:=(bE q2)
      rw[List.length_append];omega
    ·rw[if_neg hz]at hr;obtain⟨b,hr⟩:=hr;refine .inl ⟨(i+1,L++[b]),hr,by show l.length-(i+1)<l.length-i;omega,by show i+1<=_;omega,?_,?_⟩
     ·show(L++[b])[0]?=_;rw[List.getElem?_append_left (bE q2)];exact q2
     ·show ∀ p ∈ l.take (i+1),_;rw[List.take_add_one,hp];intro p hp';rcases List.mem_append.1 hp' with hp'|hp'
      ·exact q3 p hp'
      ·simp only[Option.toList_some,List.mem_singleton]at hp';rw[hp'];exact hz
   ·obtain rfl:i=l.length:=by omega
    rw[List.take_length]at q3;refine .inr ⟨_,Ex.of (n:=60) ?_,?_,.inr ⟨gL q3,L,rfl,q2⟩⟩
    ·simp only[LY];rw[<-hlen];generalize (l.map fun p=>qC p.1 p.2)=es at*;simp -implicitDefEqProofs [Ud,f209]
    ·simp) (0,[LZ]) ⟨Nat.zero_le _,rfl,by simp⟩
theorem BM {S:Nat}{l:List aJ}(h:PV S l)(hS:S<=100000):Ca E1 209 [.d (au l)] (.d (qD (bV l)),none):=by
 obtain⟨N,t⟩:=(mr h hS).get;obtain⟨r,hl,hr⟩:=Uf h hS;have hlen:(l.map fun p=>qC p.1 p.2).length=l.length:=by simp
 have hA:Ex E1 f209.body.l (st0 [.d (au l),.u,.u,.u,.u,.u,.u,.u] []) (.norm,(st0 [.d (au l),.r (.loc 0) 0,.u,.u,.u,.u,.u,.u] [LZ])):=by
  refine Ex.of (n:=60) ?_;generalize au l=x;unfold LZ;simp -implicitDefEqProofs [f209]
 have hB:Ex E1 f209.body.r.l.l (st0 [.d (au l),.r (.loc 0) 0,.u,.u,.u,.u,.u,.u] [LZ]) (.norm,LY (l.map fun p=>qC p.1 p.2) 0 .u [LZ]):=by
  refine Ex.of (n:=N+60) ?_;unfold LY LZ au at*;generalize (l.map fun p=>qC p.1 p.2)=es at*;simp -implicitDefEqProofs [f209,t]
 rcases hr with ⟨L,rfl,h0⟩|⟨hz,L,rfl,h0⟩
 ·refine Ca.body (o:=.ret) (st1:=Z7 (bV l) L) rfl (k209:E1.fn _=_) rfl ?_ (by intro id h;cases h) ?_
  ·show Ex E1 (.seq f209.body.l (.seq (.seq f209.body.r.l.l (.block 0 (.loop Ud))) f209.body.r.r)) _ _;exact hA.seq (Ex.eF (hB.seq (Ex.cO hl)))
  ·have s0:∀ o,(L.set 0 o)[0]?=some o:=fun o=>List.getElem?_set_self h0
   unfold Z7 qD raw;simp only[LD];generalize LL (qn (bV l))=ns;generalize LL (qd (bV l))=ds;simp -implicitDefEqProofs [f209,s0]
 ·have hE:∃ n,(match EX E1 n f209.body.r.r (LY (l.map fun p=>qC p.1 p.2) l.length (.d (.v (.bool false))) L) with|some (.exit _,_)=>none|some (_,st')=>finish f209 st'|none=>none)=some (.d (qD (bV l)),none):=by
   refine⟨60,?_⟩;have h0l:0<L.length:=(bE h0)
   have s0:∀ o,(L.set 0 o)[0]?=some o:=fun o=>List.getElem?_set_self h0l
   have i0:=idx h0;rw[hz,iM];unfold LY LZ at*;generalize (l.map fun p=>qC p.1 p.2)=es at*;simp -implicitDefEqProofs [f209,h0,i0,s0,h0l]
  obtain⟨n,hE⟩:=hE;obtain⟨o,st',hE,ho',hf⟩:=Ie hE;refine Ca.body (o:=o) (st1:=st') rfl (k209:E1.fn _=_) rfl ?_ ho' hf;show Ex E1 (.seq f209.body.l (.seq (.seq f209.body.r.l.l (.block 0 (.loop Ud))) f209.body.r.r)) _ _;exact hA.seq ((hB.seq hl.block).seq hE)
theorem vJ (x:Rat)(hx:qz x<=5000000):Ca E1 153 [.d (qD x)] (.d (au (bB x)),none):=by
 have h:=Fa x hx;have e:canon [((0,0,0),0+x)]=bB x:=by
  have hk:Keys [(((0,0,0):d_),0+x)]:=by simp[Keys]
  have hf:Fits [(((0,0,0):d_),0+x)]:=fun p hp=>by rw[List.mem_singleton]at hp;subst hp;show aX (0,0,0)=true;decide
  have hb:Bd (qz (0+x)) [(((0,0,0):d_),0+x)]:=fun p hp=>by rw[List.mem_singleton]at hp;subst hp;exact Nat.le_refl _
  refine Pv.ext (Pf hk hf hb).pv (Pv.const x) fun e => ?_
  rw[qm,vI];simp only[tot]
  by_cases h:e=(0,0,0)
  ·subst h;simp;grind
  ·rw[if_neg (fun h2=>h h2.symm),if_neg h];grind
 rw[Fh,e]at h;exact h
theorem L6 {S:Nat}{l:List aJ}(h:PV S l)(hS:S<=100000)(x:Rat)(hx:qz x<=S)(hm:l.length*(1*(2*S+1))<=5000000):Ca E1 211 [.d (au l),.d (qD x)] (.d (au (dU l (bB x))),none):=by
 obtain⟨K,hK,t1,t2⟩:=((vJ x (by omega)).j ((Dj h (jk hx) hS (Nat.le_trans (Nat.mul_le_mul_left _ (Nat.mul_le_mul_right _ (mE x))) hm)).any)).at 0;refine Ca.a_ (n:=K+60) ?_;rw[ah rfl (k211:E1.fn _=_) rfl];generalize dU l (bB x)=m at*;generalize bB x=c at*;unfold au qD raw at*;simp only[LD]at*;generalize (l.map fun p=>qC p.1 p.2)=x1,(m.map fun p=>qC p.1 p.2)=x2,(c.map fun p=>qC p.1 p.2)=x3,qs x=s,LL (qn x)=ns,LL (qd x)=ds at*;simp -implicitDefEqProofs [f211,t1,t2]
def qB (x:Rat):ae:=.box [.d (.v (.bool (qs x))),.d (LD (qn x)),.d (LD (qd x))]
def Yx:aD:=f159.body.r.r.r.r.r.r.l.r.bl.lp
def Ug (n out pw:D)(t:FV)(L:List ae):St:=(st0 [.u,.u,.u,.u,.u,.d n,.d out,.d pw,.u,t] L)
theorem Qt {T:Nat}(hT:T<=100000){n out pw:List aJ}(hn:PV T n)(ho:PV T out)(hp:PV T pw)(hp2:PV T (dU pw n))(h0:pw≠[])(h1:pw.length*(n.length*(2*T+1))<=5000000)(h2:(out++dU pw n).length*(T+1)<=5000000)(L:List ae) :
  Ex E1 Yx (Ug (au n) (au out) (au pw) .u L) (.norm,Ug (au n) (au (fF out (dU pw n))) (au (dU pw n)) .u L):=by
 obtain⟨K,hK,t1,t2⟩:=((Dj hp hn hT h1).j ((Di ho hp2 hT h2).any)).at 0;have hl:0<(pw.map fun p=>qC p.1 p.2).length:=by
  rw[List.length_map];exact List.length_pos_iff.2 h0
 refine Ex.of (n:=K+100) ?_;unfold Ug;generalize fF out (dU pw n)=x at*;generalize dU pw n=y at*;unfold au at*;generalize (pw.map fun p=>qC p.1 p.2)=l1,(n.map fun p=>qC p.1 p.2)=l2,(out.map fun p=>qC p.1 p.2)=l3,(x.map fun p=>qC p.1 p.2)=l4,(y.map fun p=>qC p.1 p.2)=l5 at*;have hl2:(0:Int)<(l1.length:Int):=by omega
 simp -implicitDefEqProofs [Yx,f159,t1,t2,hl,hl2]
structure Xv (T:Nat)(p:List aJ):Prop where
 step:PV T (bu p (aW p))
 pw:∀ k,k<=6->PV T (zJ (aW p) (bu p (aW p)) k)
 so:∀ k,k<=6->PV T (Dv (aW p) (bu p (aW p)) k)
 h1:∀ k,k<6->(zJ (aW p) (bu p (aW p)) k).length*((bu p (aW p)).length*(2*T+1))<=5000000
 h2:∀ k,k<6->(Dv (aW p) (bu p (aW p)) k++zJ (aW p) (bu p (aW p)) (k+1)).length*(T+1)<=5000000
theorem Qu {p:List aJ}(hp:Pv p)(t:Rat){k:Nat}(h:zJ t (bu p t) k=[]):∀ j,zJ t (bu p t) (k+j)=[]/\Dv t (bu p t) (k+j)=Dv t (bu p t) k
 | 0=>⟨h,rfl⟩
 | j+1=>by
  obtain⟨h1,h2⟩:=Qu hp t h j;have h3:zJ t (bu p t) (k+j+1)=[]:=by
   have e:zJ t (bu p t) (k+j+1)=dU (zJ t (bu p t) (k+j)) (bu p t):=rfl;rw[e,h1];have:=pg [] (bu p t);exact List.eq_nil_of_length_eq_zero (by simpa using this)
  refine⟨h3,?_⟩;have e:Dv t (bu p t) (k+j+1)=fF (Dv t (bu p t) (k+j)) (zJ t (bu p t) (k+j+1)):=rfl;show Dv t (bu p t) (k+j+1)=_;rw[e,h3,h2];obtain⟨S,hS,hv⟩:=Qo hp t k;exact zF hS hv
theorem Uh {S T:Nat}{p:List aJ}(hp:PV S p)(hT:T<=100000)(h:Xv T p)(L:List ae) :
  ∃ pw,Ex E1 (.loop Yx) (Ug (au (bu p (aW p))) (au (bB (aW p))) (au (bB (aW p))) .u L) (.exit 0,Ug (au (bu p (aW p))) (au (nY p)) pw (.d (.v (.bool false))) L):=by
 obtain⟨r,hr,pw,rfl⟩:=Ex.inv (E:=E1) (b:=Yx) (α:=Nat) (S:=fun k=>Ug (au (bu p (aW p))) (au (Dv (aW p) (bu p (aW p)) k)) (au (zJ (aW p) (bu p (aW p)) k)) .u L) (fun k=>6-k) (fun k=>k<=6)
  (fun r=>∃ pw,r=(.exit 0,Ug (au (bu p (aW p))) (au (nY p)) pw (.d (.v (.bool false))) L)) (by
   intro k hk
   by_cases h0:zJ (aW p) (bu p (aW p)) k=[]
   ·refine .inr ⟨_,Ex.of (n:=60) ?_,?_,au [],rfl⟩
    ·obtain⟨j,hj⟩:∃ j,6=k+j:=⟨6-k,by omega⟩
     have e:nY p=Dv (aW p) (bu p (aW p)) k:=by
      unfold nY;rw[hj];exact(Qu hp.pv _ h0 j).2
     rw[e];simp only[h0];generalize au (Dv _ _ k)=x1;generalize au (bu _ _)=x2;unfold Ug au;simp -implicitDefEqProofs [Yx,f159]
    ·simp
   ·have hk6:k<6:=by
     rcases Nat.lt_or_ge k 6 with h6|h6
     ·exact h6
     ·obtain rfl:k=6:=by omega
      exact absurd (Qp hp.pv _) h0
    refine .inl ⟨k+1,?_,by omega,by omega⟩;exact Qt hT h.step (h.so k hk) (h.pw k hk) (h.pw (k+1) (by omega)) h0 (h.h1 k hk6) (h.h2 k hk6) L) 0 (Nat.zero_le _)
 exact⟨pw,hr⟩
theorem xH {c:Rat}:((0:Int)<=(c.abs-1).num.sign)↔¬ (c.abs<1):=by
 have h1:(0:Int)<=(c.abs-1).num.sign↔0<=(c.abs-1).num:=by
  rcases Int.lt_trichotomy (c.abs-1).num 0 with h|h|h
  ·rw[Int.sign_eq_neg_one_of_neg h];omega
  ·rw[h];simp
  ·rw[Int.sign_eq_one_of_pos h];omega
 rw[h1,Rat.num_nonneg];grind
theorem Qv {S T:Nat}{p:List aJ}(hp:PV S p)(hS:S<=40000)(hS1:1<=S)(hT:T<=100000)(hl:p.length<=56)(hc:(bV p).abs<1)(hr:PV T (lK p))(ht:qz (aW p)<=T)(hrl:(lK p).length*(1*(2*T+1))<=5000000)(hal:(p++bB (-bV p)).length*(S+1)<=5000000)(h:Xv T p) :
  Ca E1 159 [.d (au p)] (.d (.t [au (nY p),.v (.int .i64 0)]),none):=by
 have hq:qz (bV p)<=S:=nE hS1 (dG hp.zi) hp.bd _;have Yy:=uV (bV p);have hqn:=CU (bV p);have hq1:=jg;have Y6:=oL 1 (bV p);have hne:(1:Rat)-bV p≠0:=by
  intro h0;have:bV p=1:=by grind
  rw[this]at hc;exact absurd hc (by decide)
 obtain⟨pw,hloop⟩:=Uh hp hT h [qB (bV p),qB (aW p)];have hi:=Ca.dO (yo 1 (by omega));have e1:((1:Int):Rat)=1:=rfl;rw[e1]at hi;obtain⟨K,hK,a1,a2,a3,a4,a5,a6,a7,a8,a9,b1,b2⟩:=((BM hp (by omega)).j ((Ca.dO (CK (bV p) (by omega))).j ((hi).j ((Ca.dO (jD (bV p).abs 1 (by omega) (by omega))).j ((Ca.dO (CJ 1 (bV p) (by omega) (by omega))).j ((Ca.dO (Jw 1 (1-bV p) (by omega) (by omega) hne)).j ((Ca.dO (Sy (bV p) (by omega))).j ((vJ (-bV p) (by omega)).j ((Di hp (jk (x:=-bV p) (S:=S) (by omega)) (by omega) hal).j ((L6 hr hT (aW p) ht hrl).j ((vJ (aW p) (by omega)).any))))))))))).at 0;have hcmp:decide ((0:Int)<=((bV p).abs-1).num.sign)=false:=decide_eq_false fun h0=>(xH.1 h0) hc
 change ∀ k,CL E1 (K+k) 190 _ _=some (.d (.t [qD (aW p),_]),none) at a6
 change ∀ k,CL E1 (K+k) 155 _ _=some (.d (au (lK p)),none) at a9
 change ∀ k,CL E1 (K+k) 211 _ _=some (.d (au (bu p (aW p))),none) at b1
 have he:∃ s n d,qD (bV p)=.a [.v (.bool s),.s 1 n,.s 1 d]/\qB (bV p)=.box [.d (.v (.bool s)),.d (.s 1 n),.d (.s 1 d)]:=⟨_,_,_,rfl,rfl⟩
 have het:∃ s n d,qD (aW p)=.a [.v (.bool s),.s 1 n,.s 1 d]/\qB (aW p)=.box [.d (.v (.bool s)),.d (.s 1 n),.d (.s 1 d)]:=⟨_,_,_,rfl,rfl⟩
 have qa:∀ x,∃ s n d,qD x=.a [.v (.bool s),.s 1 n,.s 1 d]:=fun x=>⟨_,_,_,rfl⟩
 have pa:∀ x,∃ l,au x=.s 6 l:=fun x=>⟨_,rfl⟩
 generalize ((bV p).abs-1).num.sign=sg,nY p=res,bu p (aW p)=stp,lK p=rst at*;generalize hcT:bB (aW p)=cT at*;generalize bB (-bV p)=cN,aW p=tt at*;obtain⟨s1,M8,M9,f1,f1'⟩:=he;obtain⟨s2,Vj,Vk,f2,f2'⟩:=het;obtain⟨s3,l31,l32,f3⟩:=qa (bV p).abs;obtain⟨s4,l41,l42,f4⟩:=qa 1;obtain⟨s5,l51,l52,f5⟩:=qa (1-bV p);obtain⟨s6,l61,l62,f6⟩:=qa (-bV p);obtain⟨x1,g1⟩:=pa p;obtain⟨x2,g2⟩:=pa res;obtain⟨x3,g3⟩:=pa stp;obtain⟨x4,g4⟩:=pa rst;obtain⟨x5,g5⟩:=pa cT;obtain⟨x6,g6⟩:=pa cN;rw[f1',f2',g3,g5,g2]at hloop;simp only[f1,f2,f3,f4,f5,f6,g1,g2,g3,g4,g5,g6]at a1 a2 a3 a4 a5 a6 a7 a8 a9 b1 b2 ⊢;clear f1 f2 f3 f4 f5 f6 g1 g2 g3 g4 g5 g6 f1' f2' qa pa hp hc hr ht hrl hal h hq Yy hqn hq1 Y6 hne hi e1 hcT hK;have h0:Ex E1 f159.body.l (st0 [.d (.s 6 x1),.u,.u,.u,.u,.u,.u,.u,.u,.u] []) (.norm,(st0 [.d (.s 6 x1),.u,.u,.u,.u,.u,.u,.u,.u,.u] [])):=by
  refine Ex.of (n:=K+100) ?_;simp -implicitDefEqProofs [f159]
 have h1:Ex E1 f159.body.r.l (st0 [.d (.s 6 x1),.u,.u,.u,.u,.u,.u,.u,.u,.u] []) (.norm,(st0 [.d (.s 6 x1),.u,.u,.r (.loc 0) 0,.u,.u,.u,.u,.u,.u] [.box [.d (.v (.bool s1)),.d (.s 1 M8),.d (.s 1 M9)]])):=by
  refine Ex.of (n:=K+100) ?_;simp -implicitDefEqProofs [f159,a1]
 have h2:Ex E1 f159.body.r.r.l (st0 [.d (.s 6 x1),.u,.u,.r (.loc 0) 0,.u,.u,.u,.u,.u,.u] [.box [.d (.v (.bool s1)),.d (.s 1 M8),.d (.s 1 M9)]]) (.norm,(st0 [.d (.s 6 x1),.u,.u,.r (.loc 0) 0,.u,.u,.u,.u,.d (.v (.bool false)),.u] [.box [.d (.v (.bool s1)),.d (.s 1 M8),.d (.s 1 M9)]])):=by
  refine Ex.of (n:=K+100) ?_;simp -implicitDefEqProofs [f159,a2,a3,a4,hcmp]
 have h3:Ex E1 f159.body.r.r.r.l (st0 [.d (.s 6 x1),.u,.u,.r (.loc 0) 0,.u,.u,.u,.u,.d (.v (.bool false)),.u] [.box [.d (.v (.bool s1)),.d (.s 1 M8),.d (.s 1 M9)]]) (.norm,(st0 [.d (.s 6 x1),.u,.u,.r (.loc 0) 0,.r (.loc 1) 0,.u,.u,.u,.u,.u] [.box [.d (.v (.bool s1)),.d (.s 1 M8),.d (.s 1 M9)],.box [.d (.v (.bool s2)),.d (.s 1 Vj),.d (.s 1 Vk)]])):=by
  refine Ex.of (n:=K+100) ?_;simp -implicitDefEqProofs [f159,a3,a5,a6]
 have h4:Ex E1 f159.body.r.r.r.r.l (st0 [.d (.s 6 x1),.u,.u,.r (.loc 0) 0,.r (.loc 1) 0,.u,.u,.u,.u,.u] [.box [.d (.v (.bool s1)),.d (.s 1 M8),.d (.s 1 M9)],.box [.d (.v (.bool s2)),.d (.s 1 Vj),.d (.s 1 Vk)]]) (.norm,(st0 [.u,.u,.u,.u,.r (.loc 1) 0,.d (.s 6 x3),.u,.u,.u,.u] [.box [.d (.v (.bool s1)),.d (.s 1 M8),.d (.s 1 M9)],.box [.d (.v (.bool s2)),.d (.s 1 Vj),.d (.s 1 Vk)]])):=by
  refine Ex.of (n:=K+100) ?_;simp -implicitDefEqProofs [f159,a7,a8,a9,b1]
 have h5:Ex E1 f159.body.r.r.r.r.r.l (st0 [.u,.u,.u,.u,.r (.loc 1) 0,.d (.s 6 x3),.u,.u,.u,.u] [.box [.d (.v (.bool s1)),.d (.s 1 M8),.d (.s 1 M9)],.box [.d (.v (.bool s2)),.d (.s 1 Vj),.d (.s 1 Vk)]]) (.norm,(st0 [.u,.u,.u,.u,.u,.d (.s 6 x3),.d (.s 6 x5),.u,.u,.u] [.box [.d (.v (.bool s1)),.d (.s 1 M8),.d (.s 1 M9)],.box [.d (.v (.bool s2)),.d (.s 1 Vj),.d (.s 1 Vk)]])):=by
  refine Ex.of (n:=K+100) ?_;simp -implicitDefEqProofs [f159,b2]
 have h6:Ex E1 f159.body.r.r.r.r.r.r.l.l (st0 [.u,.u,.u,.u,.u,.d (.s 6 x3),.d (.s 6 x5),.u,.u,.u] [.box [.d (.v (.bool s1)),.d (.s 1 M8),.d (.s 1 M9)],.box [.d (.v (.bool s2)),.d (.s 1 Vj),.d (.s 1 Vk)]]) (.norm,(st0 [.u,.u,.u,.u,.u,.d (.s 6 x3),.d (.s 6 x5),.d (.s 6 x5),.u,.u] [.box [.d (.v (.bool s1)),.d (.s 1 M8),.d (.s 1 M9)],.box [.d (.v (.bool s2)),.d (.s 1 Vj),.d (.s 1 Vk)]])):=by
  refine Ex.of (n:=K+100) ?_;simp -implicitDefEqProofs [f159]
 refine Ca.body (o:=.ret) (st1:=(st0 [.u,.d (.s 6 x2),.d (.v (.int .i64 0)),.u,.u,.u,.u,.u,.u,.u] [.box [.d (.v (.bool s1)),.d (.s 1 M8),.d (.s 1 M9)],.box [.d (.v (.bool s2)),.d (.s 1 Vj),.d (.s 1 Vk)]])) rfl (k159:E1.fn _=_) rfl ?_ (by intro id h;cases h) ?_
 ·show Ex E1 (.seq f159.body.l (.seq f159.body.r.l (.seq f159.body.r.r.l (.seq f159.body.r.r.r.l (.seq f159.body.r.r.r.r.l (.seq f159.body.r.r.r.r.r.l (.seq (.seq f159.body.r.r.r.r.r.r.l.l (.block 0 (.loop Yx))) f159.body.r.r.r.r.r.r.r))))))) _ _;refine h0.seq (h1.seq (h2.seq (h3.seq (h4.seq (h5.seq ((h6.seq hloop.block).seq (Ex.of (n:=60) ?_)))))));unfold Ug;simp -implicitDefEqProofs [f159]
 ·simp -implicitDefEqProofs [f159,jb]
end Fi.S
namespace Fi.S
open Go Fi
set_option maxHeartbeats 1000000
end Fi.S
namespace Fi.S
open Go Fi
set_option maxHeartbeats 8000000
set_option maxRecDepth 10000
theorem Ui (x:Rat)(hx:qz x<=1000000):Ca E1 117 [.d (Sv.q x).w.d] (.d (.t (if x.abs<1 then [(Sv.q (1 / (1-x))).w.d,.v (.int .i64 0)] else [(Sv.q 0).w.d,.v (.int .i64 7)])),none):=by
 have hq1:=jg;have Yy:=uV x;have Y6:=oL 1 x;have tn:=Ca.dO yB;have e0:S_=(Sv.q 1).w.d:=(Ir (k:=1) rfl).symm;rw[e0]at tn;obtain⟨m0,a0⟩:=tn.any;obtain⟨m1,a1⟩:=(Ca.dO (CK x (by omega))).any;obtain⟨m2,a2⟩:=(Ca.dO (jD x.abs 1 (by omega) (by omega))).any;obtain⟨m3,a3⟩:=(Ca.dO (CJ 1 x (by omega) (by omega))).any;obtain⟨s1,n1,d1,e1,g1⟩:=oC x;obtain⟨s2,n2,d2,e2,g2⟩:=oC 1;obtain⟨s3,n3,d3,e3,g3⟩:=oC x.abs;obtain⟨s4,n4,d4,e4,g4⟩:=oC (1-x);have ez:(Sv.q 0).w.d=wD false [] [] 0 false 0 [] []:=Dq 1
 by_cases h:x.abs<1
 ·rw[if_pos h];have hne:(1:Rat)-x≠0:=by
   intro h0;have:x=1:=by grind
   rw[this]at h;exact absurd h (by decide)
  obtain⟨m4,a4⟩:=(Ca.dO (Jw 1 (1-x) (by omega) (by omega) hne)).any;obtain⟨s5,n5,d5,e5,g5⟩:=oC (1 / (1-x));obtain⟨K,hK⟩:∃ K,K=m0+m1+m2+m3+m4:=⟨_,rfl⟩
  replace a0:=a0 K (by omega);replace a1:=a1 K (by omega);replace a2:=a2 K (by omega);replace a3:=a3 K (by omega);replace a4:=a4 K (by omega);have hcmp:¬ (0:Int)<=(x.abs-1).num.sign:=fun h0=>xH.1 h0 h
  generalize (x.abs-1).num.sign=sg at*;simp only[e1,e2,e3,e4,e5,g1,g2,g3,g4,g5]at a0 a1 a2 a3 a4 ⊢;refine Ca.a_ (n:=K+100) ?_;rw[ah rfl (k117:E1.fn _=_) rfl];unfold wD at*;clear hK tn;simp -implicitDefEqProofs [f117,a0,a1,a2,a3,a4,hcmp,jb]
 ·rw[if_neg h];obtain⟨K,hK⟩:∃ K,K=m0+m1+m2+m3:=⟨_,rfl⟩
  replace a0:=a0 K (by omega);replace a1:=a1 K (by omega);replace a2:=a2 K (by omega);replace a3:=a3 K (by omega);have hcmp:(0:Int)<=(x.abs-1).num.sign:=xH.2 h;generalize (x.abs-1).num.sign=sg at*;simp only[e1,e2,e3,e4,g1,g2,g3,g4,ez]at a0 a1 a2 a3 ⊢;refine Ca.a_ (n:=K+100) ?_;rw[ah rfl (k117:E1.fn _=_) rfl];unfold wD at*;clear hK tn;simp -implicitDefEqProofs [f117,a0,a1,a2,a3,hcmp,jb]
theorem Qw {l r:List aJ}(h:Ca E1 159 [.d (au l)] (.d (.t [au r,.v (.int .i64 0)]),none)):Ca E1 158 [.d (Sv.p l).w.d] (.d (.t [(Sv.p r).w.d,.v (.int .i64 0)]),none):=by
 obtain⟨K,a0⟩:=h.get;refine Ca.a_ (n:=K+100) ?_;rw[ah rfl (k158:E1.fn _=_) rfl];simp only[FB];unfold au at*;generalize (l.map fun p=>qC p.1 p.2)=x1,(r.map fun p=>qC p.1 p.2)=x2 at*;simp -implicitDefEqProofs [f158,a0,jb]
theorem Dw {g:Nat}{x z:W}(h:Ca E1 g [] (.d z.d,none)):∃ N,∀ (B:List ae) (j:Nat),B[j]?=some (.box [.d (.fn g)])->∀ m,CL E1 (N+m) 195 [.d x.d,.r (.old j) 0] B=some (.d (.t [z.d,.v (.int .i64 0)]),none):=by
 obtain⟨N,t⟩:=h.get;refine⟨N+60,fun B j hB m => ?_⟩;obtain⟨xs,Eb,Ec,xc,xb,xu,xp,Ed,ex⟩:=x.av;obtain⟨zs,wH,wI,zc,zb,zu,zp,wJ,ez⟩:=z.av;rw[ez]at t ⊢;rw[ex];have hjl:j<B.length:=(bE hB)
 have Dc:∀ L,(B++L)[j]?=some (.box [.d (.fn g)]):=fun L=>by rw[List.getElem?_append_left hjl];exact hB
 replace t:=fun k=>t (m+k)
 simp only[<-Nat.add_assoc]at t;rw[show N+60+m=N+m+60 by omega];generalize N+m=n at*;rw[ah rfl (k195:E1.fn _=_) rfl];unfold wD at*;simp -implicitDefEqProofs [f195,t,Dc,jb]
end Fi.S
namespace Fi.S
open Go Fi
def Fr (D N:Nat)(x:Rat):Prop:=∃ n:Int,x*(D:Rat)=(n:Rat)/\n.natAbs<=N
theorem Fr.mono {D N M:Nat}{x:Rat}(h:Fr D N x)(hN:N<=M):Fr D M x:=by
 obtain⟨n,h1,h2⟩:=h;exact⟨n,h1,by omega⟩
theorem Fr.zero (D N:Nat):Fr D N 0:=⟨0,by simp[Rat.zero_mul],by simp⟩
theorem Fr.add {D N M:Nat}{x y:Rat}(h:Fr D N x)(k:Fr D M y):Fr D (N+M) (x+y):=by
 obtain⟨n,h1,h2⟩:=h;obtain⟨m,k1,k2⟩:=k;refine⟨n+m,?_,by omega⟩;rw[Rat.add_mul,h1,k1,Rat.intCast_add]
theorem Fr.mul {D E N M:Nat}{x y:Rat}(h:Fr D N x)(k:Fr E M y):Fr (D*E) (N*M) (x*y):=by
 obtain⟨n,h1,h2⟩:=h;obtain⟨m,k1,k2⟩:=k;refine⟨n*m,?_,?_⟩
 ·rw[Rat.natCast_mul,Rat.intCast_mul,<-h1,<-k1];grind
 ·rw[Int.natAbs_mul];exact Nat.mul_le_mul h2 k2
theorem Fr.scale {D N:Nat}(c:Nat){x:Rat}(h:Fr D N x):Fr (c*D) (c*N) x:=by
 obtain⟨n,h1,h2⟩:=h;refine⟨c*n,?_,?_⟩
 ·rw[Rat.natCast_mul,Rat.intCast_mul,<-h1,Rat.intCast_natCast];grind
 ·rw[Int.natAbs_mul];exact Nat.mul_le_mul (by simp) h2
theorem J7 (x:Rat):x*(x.den:Rat)=(x.num:Rat):=by
 have h:=Rat.num_divInt_den x;rw[Rat.divInt_eq_div]at h;have h0:((x.den:Int):Rat)≠0:=by
  intro h1;have h2:((x.den:Int):Rat)=((0:Int):Rat):=h1;have:=Rat.intCast_inj.1 h2;have:=x.den_nz;omega
 have h3:((x.num:Rat) / ((x.den:Int):Rat))*((x.den:Int):Rat)=(x.num:Rat):=Rat.div_mul_cancel h0;rw[h]at h3;exact h3
theorem Fr.of (x:Rat):Fr x.den x.num.natAbs x:=⟨x.num,J7 x,Nat.le_refl _⟩
theorem Fr.parts {D N:Nat}(hD:0<D){x:Rat}(h:Fr D N x):x.num.natAbs<=N/\x.den<=D:=by
 obtain⟨n,h1,h2⟩:=h;have hx:x.num*(D:Int)=n*(x.den:Int):=by
  have h3:(x.num:Rat)*(D:Rat)=(n:Rat)*(x.den:Rat):=by
   rw[<-h1,<-J7 x];grind
  have h4:((x.num*(D:Int):Int):Rat)=((n*(x.den:Int):Int):Rat):=by
   rw[Rat.intCast_mul,Rat.intCast_mul,Rat.intCast_natCast,Rat.intCast_natCast];exact h3
  exact Rat.intCast_inj.1 h4
 have ha:x.num.natAbs*D=n.natAbs*x.den:=by
  have:=congrArg Int.natAbs hx;simpa[Int.natAbs_mul] using this
 have hc:Nat.Coprime x.den x.num.natAbs:=Nat.Coprime.symm x.reduced;have hd:x.den ∣ D:=hc.dvd_of_dvd_mul_left ⟨n.natAbs,by rw[ha,Nat.mul_comm]⟩;obtain⟨c,rfl⟩:=hd;have hden:0<x.den:=Nat.pos_of_ne_zero x.den_nz;have hc0:0<c:=Nat.pos_of_mul_pos_left hD;have hn:x.num.natAbs*c=n.natAbs:=by
  refine Nat.eq_of_mul_eq_mul_right hden ?_;rw[<-ha,Nat.mul_assoc,Nat.mul_comm c]
 refine⟨?_,Nat.le_mul_of_pos_right _ hc0⟩;have:=Nat.le_mul_of_pos_right x.num.natAbs hc0;omega
theorem Fr.qz {D N k:Nat}(hD:0<D){x:Rat}(h:Fr D N x)(hN:N<4294967296 ^ k)(hDk:D<4294967296 ^ k):qz x<=k:=by
 obtain⟨h1,h2⟩:=h.parts hD;exact Nat.max_le.2 ⟨vZ (Nat.lt_of_le_of_lt h1 hN),vZ (Nat.lt_of_le_of_lt h2 hDk)⟩
theorem Vl {D N E M:Nat}{f:d_->Rat}(hf:∀ e,Fr E M (f e))(e:d_):∀ {a:List aJ},(∀ p ∈ a,Fr D N p.2)->Fr (D*E) (a.length*(N*M)) (cv a f e)
 | [],_=>Fr.zero _ _
 | (d,y)::a,h=>by
  have h1:=(h (d,y) (List.mem_cons_self ..)).mul (hf (e.1-d.1,e.2.1-d.2.1,e.2.2-d.2.2));have h2:=Vl hf e (a:=a) (fun p hp=>h p (List.mem_cons_of_mem _ hp));refine(h1.add h2).mono ?_;rw[List.length_cons,Nat.add_mul];omega
theorem J8 {B:Nat}(hB:0<B):∀ {l:List aJ},(∀ p ∈ l,p.2.num.natAbs<=B/\p.2.den<=B)->∃ D,0<D/\D<=B ^ l.length/\∀ p ∈ l,Fr D (B ^ l.length) p.2
 | [],_=>⟨1,by omega,by simp,fun p hp=>by cases hp⟩
 | x::l,h=>by
  obtain⟨D,h1,h2,h3⟩:=J8 hB (l:=l) (fun p hp=>h p (List.mem_cons_of_mem _ hp));obtain⟨g1,g2⟩:=h x (List.mem_cons_self ..);have hx:0<x.2.den:=Nat.pos_of_ne_zero x.2.den_nz;have hp:B ^ (x::l).length=B*B ^ l.length:=by rw[List.length_cons,Nat.pow_succ,Nat.mul_comm]
  refine⟨x.2.den*D,Nat.mul_pos hx h1,by rw[hp];exact Nat.mul_le_mul g2 h2,fun p hp' => ?_⟩;rw[hp];rcases List.mem_cons.1 hp' with rfl|hp'
  ·have:=(Fr.of p.2).scale D;rw[Nat.mul_comm D]at this;exact this.mono (by rw[Nat.mul_comm];exact Nat.mul_le_mul g1 h2)
  ·exact((h3 p hp').scale x.2.den).mono (Nat.mul_le_mul_right _ g2)
theorem Xw {D N:Nat}{l:List aJ}(hk:Keys l)(h:∀ p ∈ l,Fr D N p.2)(e:d_):Fr D N (tot l e):=by
 cases hg:gK l e with
 | none=>rw[gL (Bt hg)];exact Fr.zero _ _
 | some y =>
  have h1:=tT hg;have h2:=lG hk h1;simp only at h2;rw[h2];exact h _ h1
set_option maxHeartbeats 1000000
theorem Uj {D N E M:Nat}{a b:List aJ}(ha:∀ p ∈ a,Fr D N p.2)(hb:∀ e,Fr E M (tot b e))(e:d_):Fr (D*E) (a.length*(N*M)) (tot (dU a b) e):=by
 rw[JZ];split
 ·exact Vl hb e ha
 ·exact Fr.zero _ _
theorem Qx {D N:Nat}{l:List aJ}(h:Pv l)(hf:∀ e,Fr D N (tot l e)):∀ p ∈ l,Fr D N p.2:=by
 obtain⟨S,_,h⟩:=h;intro p hp;have:=hf p.1
 rwa [lG (dG h.zi) hp]at this
theorem Qy {D N T:Nat}{l:List aJ}(h:Pv l)(hD:0<D)(hf:∀ e,Fr D N (tot l e))(hN:N<4294967296 ^ T)(hDT:D<4294967296 ^ T):PV T l:=by
 have hm:=Qx h hf;obtain⟨S,_,h⟩:=h;exact⟨h.zi,h.nz,h.fits,fun p hp=>(hm p hp).qz hD hN hDT⟩
theorem Vm {p:List aJ}(hp:Pv p)(t:Rat){B Sd Td:Nat}(hB:9<=B)(hS0:0<Sd)(hT0:0<Td)(hS:Sd<=B ^ 30)(hT:Td<=B ^ 6)(hn:∀ e,Fr Sd (B ^ 30) (tot (bu p t) e))(hl:(bu p t).length<=9)(ht:Fr Td (B ^ 6) t):∀ k:Nat,
  ∃ D,0<D/\D<=B ^ (6+30*k)/\(∀ e,Fr D (B ^ (6+31*k)) (tot (zJ t (bu p t) k) e))/\(∀ e,Fr D (B ^ (6+32*k)) (tot (Dv t (bu p t) k) e))
 | 0=>by
  have h0:∀ e,Fr Td (B ^ 6) (tot (bB t) e):=fun e=>by
   rw[vI];split
   ·exact ht
   ·exact Fr.zero _ _
  exact⟨Td,hT0,hT,h0,h0⟩
 | k+1=>by
  obtain⟨D,h1,h2,h3,h4⟩:=Vm hp t hB hS0 hT0 hS hT hn hl ht k;have hB0:0<B:=by omega
  have hpw:∀ e,Fr (Sd*D) (B ^ (6+31*(k+1))) (tot (zJ t (bu p t) (k+1)) e):=fun e=>by
   show Fr _ _ (tot (dU (zJ t (bu p t) k) (bu p t)) e);rw[Pv.comm (BL hp t k) (um hp t)];refine(Uj (Qx (um hp t) hn) h3 e).mono ?_;have e1:B ^ (6+31*(k+1))=B*(B ^ 30*B ^ (6+31*k)):=by
    rw[<-Nat.pow_add,<-Nat.pow_succ'];exact congrArg (B ^ ·) (show 6+31*(k+1)=30+(6+31*k)+1 by omega)
   rw[e1];exact Nat.mul_le_mul_right _ (by omega)
  refine⟨Sd*D,Nat.mul_pos hS0 h1,?_,hpw,fun e => ?_⟩
  ·have e1:B ^ (6+30*(k+1))=B ^ 30*B ^ (6+30*k):=by
    rw[<-Nat.pow_add];exact congrArg (B ^ ·) (show 6+30*(k+1)=30+(6+30*k) by omega)
   rw[e1];exact Nat.mul_le_mul hS h2
  ·show Fr _ _ (tot (fF (Dv t (bu p t) k) (zJ t (bu p t) (k+1))) e);rw[mq];refine(((h4 e).scale Sd).add (hpw e)).mono ?_;have e1:B ^ (6+32*(k+1))=B*B ^ (37+32*k):=by
    rw[<-Nat.pow_succ'];exact congrArg (B ^ ·) (show 6+32*(k+1)=37+32*k+1 by omega)
   have e2:Sd*B ^ (6+32*k)<=B ^ (37+32*k):=by
    refine Nat.le_trans (Nat.mul_le_mul_right _ hS) ?_;rw[<-Nat.pow_add];exact Nat.pow_le_pow_right hB0 (by omega)
   have e3:B ^ (6+31*(k+1))<=B ^ (37+32*k):=Nat.pow_le_pow_right hB0 (by omega);have e4:2*B ^ (37+32*k)<=B*B ^ (37+32*k):=Nat.mul_le_mul_right _ (by omega);rw[e1];omega
theorem FU {x:Rat}{k:Nat}(h:qz x<=k):x.num.natAbs<=4294967296 ^ k/\x.den<=4294967296 ^ k:=by
 have h1:sz x.num.natAbs<=k:=Nat.le_trans (Nat.le_max_left _ _) h;have h2:sz x.den<=k:=Nat.le_trans (Nat.le_max_right _ _) h;exact⟨Nat.le_trans (Nat.le_of_lt (xW _)) (Nat.pow_le_pow_right (by omega) h1),Nat.le_trans (Nat.le_of_lt (xW _)) (Nat.pow_le_pow_right (by omega) h2)⟩
theorem rW {p:List aJ}(hp:PV 3 p)(hl:p.length<=8):Xv 200 p/\PV 7 (lK p)/\(lK p).length<=9/\qz (aW p)<=6/\(bu p (aW p)).length<=9:=by
 have hq:qz (bV p)<=3:=nE (by omega) (dG hp.zi) hp.bd _;have hn:=CU (bV p);have hr:PV 7 (lK p):=kR (S:=3) (T:=3) (by omega) (by omega) hp (jk (by omega));have hrl:(lK p).length<=9:=by
  have h1:=wE p (bB (-bV p));have h2:=mE (-bV p);show(fF _ _).length<=9;omega
 have ht:qz (aW p)<=6:=by
  have h2:=oL 1 (bV p);have h3:=jg;unfold aW
  by_cases h0:(1:Rat)-bV p=0
  ·rw[h0,Rat.div_def,Rat.inv_zero,Rat.mul_zero];have:=fE;omega
  ·have:=NY 1 (1-bV p) h0;omega
 have hsl:(bu p (aW p)).length<=9:=Nat.le_trans (pg _ _) (Nat.le_trans (Nat.mul_le_mul hrl (mE _)) (by omega));obtain⟨t1,t2⟩:=FU ht;have hb:∀ q ∈ p,q.2.num.natAbs<=4294967296 ^ 3/\q.2.den<=4294967296 ^ 3:=fun q hq=>FU (hp.bd q hq)
 have hb3:9<=4294967296:=by omega
 generalize hB:4294967296=B at t1 t2 hb hb3;have hB0:0<B:=by omega
 obtain⟨D,d1,d2,d3⟩:=J8 (Nat.pow_pos (n:=3) hB0) hb;have Xx:(B ^ 3) ^ p.length<=B ^ 24:=by
  rw[<-Nat.pow_mul];exact Nat.pow_le_pow_right hB0 (by omega)
 have hrest:∀ e,Fr D (B ^ 24) (tot (lK p) e):=fun e=>by
  rw[FT];split
  ·exact Fr.zero _ _
  ·exact(Xw (dG hp.zi) d3 e).mono Xx
 have hT0:0<(aW p).den:=Nat.pos_of_ne_zero (aW p).den_nz;have e30:B ^ 30=B ^ 6*B ^ 24:=by rw[<-Nat.pow_add]
 have hstep:∀ e,Fr ((aW p).den*D) (B ^ 30) (tot (bu p (aW p)) e):=fun e=>by
  unfold bu;rw[Pv.comm (qF hp.pv) (Pv.const _),LX _ (qF hp.pv),e30];exact((Fr.of (aW p)).mul (hrest e)).mono (Nat.mul_le_mul_right _ t1)
 have main:=Vm hp.pv (aW p) hb3 (Nat.mul_pos hT0 d1) hT0 (by rw[e30];exact Nat.mul_le_mul t2 (Nat.le_trans d2 Xx)) t2 hstep hsl ((Fr.of (aW p)).mono t1);subst hB;have lt:∀ {n k:Nat},k<200->n<=4294967296 ^ k->n<4294967296 ^ 200:=fun hk h=>Nat.lt_of_le_of_lt h (Nat.pow_lt_pow_right (by omega) hk)
 have hs:PV 200 (bu p (aW p)):=Qy (um hp.pv _) (Nat.mul_pos hT0 d1) hstep (lt (k:=30) (by omega) (Nat.le_refl _)) (lt (k:=30) (by omega) (by rw[e30];exact Nat.mul_le_mul t2 (Nat.le_trans d2 Xx)));have hw:∀ k,k<=6->PV 200 (zJ (aW p) (bu p (aW p)) k)/\PV 200 (Dv (aW p) (bu p (aW p)) k):=fun k hk=>by
  obtain⟨E,e1,e2,e3,e4⟩:=main k;exact⟨Qy (BL hp.pv _ k) e1 e3 (lt (k:=6+31*k) (by omega) (Nat.le_refl _)) (lt (k:=6+30*k) (by omega) e2),Qy (Qo hp.pv _ k) e1 e4 (lt (k:=6+32*k) (by omega) (Nat.le_refl _)) (lt (k:=6+30*k) (by omega) e2)⟩
 refine⟨⟨hs,fun k hk=>(hw k hk).1,fun k hk=>(hw k hk).2,fun k hk => ?_,fun k hk => ?_⟩,hr,hrl,ht,hsl⟩
 ·exact Nat.le_trans (Nat.mul_le_mul (hw k (by omega)).1.length (Nat.mul_le_mul_right _ hsl)) (by omega)
 ·have h2:=(hw k (by omega)).2.length;have h3:=(hw (k+1) (by omega)).1.length;rw[List.length_append];exact Nat.le_trans (Nat.mul_le_mul_right (200+1) (show _<=432 by omega)) (by omega)
theorem FW {p:List aJ}(hp:PV 3 p)(hl:p.length<=8)(hc:(bV p).abs<1):Ca E1 159 [.d (au p)] (.d (.t [au (nY p),.v (.int .i64 0)]),none):=by
 obtain⟨h,hr,hrl,ht,_⟩:=rW hp hl;refine Qv hp (by omega) (by omega) (by omega) (by omega) hc (hr.mono (by omega)) (by omega) ?_ ?_ h
 ·exact Nat.le_trans (Nat.mul_le_mul_right _ hrl) (by omega)
 ·have h2:=mE (-bV p);rw[List.length_append];exact Nat.le_trans (Nat.mul_le_mul_right (3+1) (show _<=9 by omega)) (by omega)
end Fi.S
