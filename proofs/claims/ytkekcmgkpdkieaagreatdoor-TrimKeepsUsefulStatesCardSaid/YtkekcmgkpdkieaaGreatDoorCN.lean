import Derived.Test.YtkekcmgkpdkieaaGreatDoorCL
set_option linter.unusedVariables false
set_option linter.unusedSimpArgs false
noncomputable section
namespace Fi.S
open Go Fi
set_option maxHeartbeats 8000000
inductive Sv where
 | q (x:Rat)
 | c (i:Bool) (n:Int)
 | s (u:Int)
 | p (l:List bS)
def Sv.w:Sv->W
 | .q x=>.mk (qs x) (qn x) (qd x) 0 false 0 [] []
 | .c i n=>.mk false [] [] n i 0 [] []
 | .s u=>.mk false [] [] 0 false u [] []
 | .p l=>.mk false [] [] 0 false 0 (l.map tK) []
def Sv.of (k:Int)(S M:Nat):Sv->Prop
 | .q x=>(k=1\/(k=3/\0<=x/\x<=1))/\qz x<=S
 | .c i n=>k=2/\0<=n/\n<=1099511627776/\(i=true->n=0)
 | .s u=>k=4/\AU u
 | .p l=>k=5/\PV S l/\l.length<=M
theorem Sv.of.mono {k:Int}{S T M M':Nat}{x:Sv}(h:x.of k S M)(hST:S<=T)(hM:M<=M'):x.of k T M':=by
 cases x with
 | q x=>exact⟨h.1,Qe2 h.2 hST⟩
 | c i n=>exact h
 | s u=>exact h
 | p l=>exact⟨h.1,h.2.1.mono hST,Qe2 h.2.2 hM⟩
theorem XM {s s':Bool}{a b a' b':List Nat}(h:raw s a b=raw s' a' b'):s=s'/\a=a'/\b=b':=by
 have inj:∀ {x y:List Nat},LL x=LL y->x=y:=by
  intro x
  induction x with
  | nil=>intro y hy;cases y with
   | nil=>rfl
   | cons z r=>cases hy
  | cons z r ih =>
   intro y hy;cases y with
   | nil=>cases hy
   | cons z' r' =>
    simp only[LL,Qe1,Xg2,D.v.injEq,Value.int.injEq,true_and]at hy;have h1:z=z':=ae;have h2:=ih (y:=r') hy.2;rw[h1,h2]
 simp only[raw,LD,D.a.injEq,Xg2,D.v.injEq,Value.bool.injEq,D.s.injEq,true_and,and_true]at h;exact⟨h.1,inj h.2.1,inj h.2.2⟩
theorem abh {s:Bool}{a b:List Nat}(ha:bP a)(hb:bP b)(h:dC s a b=true):s=qs (bL s a b)/\a=qn (bL s a b)/\b=qd (bL s a b) :=
 XM (nR ha hb h)
theorem Fy {s:Bool}{a b:List Nat}:q0 s a b=true↔s=false/\a=[]/\b=[]:=by
 unfold q0;cases s<;>simp
theorem Mt {S:Nat}:∀ {l:List Mo} {q:Option Mo},(∀ m ∈ l,bP m.a/\bP m.b/\m.a.length<=S/\m.b.length<=S)->1<=S->uX q l=true->∃ es,l=es.map tK/\PV S es/\∀ m,q=some m->∀ p ∈ es,jG m.e p.1=true
 | [],q,_,_,_=>⟨[],rfl,PV.nil S,fun _ _ p hp=>by cases hp⟩
 | m::l,q,hm,hS,h=>by
  have hh:m.fits=true/\(∀ m',q=some m'->iE m'.e m.e<0)/\uX (some m) l=true:=by
   cases q with
   | none =>
    simp only[uX,Qa2]at h;exact⟨h.1,fun m' h'=>by(cases h'),h.2⟩
   | some m' =>
    simp only[uX,Qa2,decide_eq_true_eq]at h;exact⟨h.1.1,fun m'' h'=>by cases h';exact h.1.2,h.2⟩
  obtain⟨h1,h2,h3⟩:=hh;obtain⟨es,rfl,hpv,Ke⟩:=Mt (fun x hx=>hm x (Qf1 _ hx)) hS h3;obtain⟨e,s,a,b⟩:=m;obtain⟨la,lb,za,zb⟩:=hm _ (Qi0 ..);unfold Mo.fits at h1;simp only[Qa2,decide_eq_true_eq]at h1 la lb za zb;obtain⟨hf,hv,hne⟩:=h1;obtain⟨e1,e2,e3⟩:=abh la lb hv;have hz:=lZ la lb S za zb hS hv;generalize bL s a b=x at*;subst e1 e2 e3;have hnz:x≠0:=by
   intro hx;subst hx;exact hne df
  have hlt:∀ p ∈ es,jG e p.1=true:=fun p hp=>Ke _ rfl p hp
  refine⟨(e,x)::es,rfl,⟨Qn2.2 ⟨hlt,hpv.Qn⟩,?_,?_,?_⟩,?_⟩
  ·intro p hp;rcases Qg1.1 hp with rfl|hp
   ·exact hnz
   ·exact hpv.nz p hp
  ·intro p hp;rcases Qg1.1 hp with rfl|hp
   ·exact hf
   ·exact hpv.fits p hp
  ·intro p hp;rcases Qg1.1 hp with rfl|hp
   ·exact hz
   ·exact hpv.bd p hp
  ·intro m' hm' p hp;have h4:jG m'.e e=true:=decide_eq_true (h2 m' hm');rcases Qg1.1 hp with rfl|hp
   ·exact h4
   ·exact lV h4 (hlt p hp)
def vN (i:Bool)(n:Int)(j:Bool)(m:Int):Bool := !i&&(j||decide (n<m))
noncomputable def ek (k:Int):Sv->Sv->Sv
 | .q x,.q y=>if k=3 then(if x<y then .q y else .q x) else .q (x+y)
 | .c i n,.c j m=>if vN j m i n then .c j m else .c i n
 | .s u,.s v=>.s (GA .u64 u v)
 | .p a,.p b=>.p (jR a b)
 | x,_=>x
theorem SH (x y:Rat)(hx:qz x<=100000)(hy:qz y<=100000):Ca E1 113 [.d (Sv.q x).w.d,.d (Sv.q y).w.d] (.d (Sv.q (x+y)).w.d,none):=by
 obtain⟨N,t⟩:=(Ca.jg (Fb x y hx hy)).get;refine Ca.bO (n:=N+60) ?_;rw[aB rfl (aN 113 f113:E1.fn _=_) rfl];generalize x+y=z at*;simp only[Sv.w,W.d,W.ds,PD,qD,raw,LD,Qc2]at*;generalize qs x=s1,qs y=s2,qs z=s3,LL (qn x)=x1,LL (qd x)=x2,LL (qn y)=y1,LL (qd y)=y2,LL (qn z)=z1,LL (qd z)=z2 at*;simp[f113,t]
theorem SI (i j:Bool)(n m:Int):Ca E1 126 [.d (Sv.c i n).w.d,.d (Sv.c j m).w.d] (dB (vN i n j m),none):=by
 refine Ca.bO (n:=60) ?_;rw[aB rfl (aN 126 f126:E1.fn _=_) rfl];simp only[Sv.w,W.d,W.ds,PD,LD,LL,Qc2,vN]at*;cases i<;>cases j<;>by_cases h:n<m<;>simp[f126,h]
theorem SK (i j:Bool)(n m:Int):Ca E1 125 [.d (Sv.c i n).w.d,.d (Sv.c j m).w.d] (.d (ek 2 (.c i n) (.c j m)).w.d,none):=by
 obtain⟨N,t⟩:=(SI j i m n).get;refine Ca.bO (n:=N+60) ?_;rw[aB rfl (aN 125 f125:E1.fn _=_) rfl];have e:ek 2 (.c i n) (.c j m)=if vN j m i n then .c j m else .c i n:=rfl
 rw[e];clear e;generalize vN j m i n=b at*;cases b
 ·simp only[Sv.w,W.d,W.ds,PD,LD,LL,Qc2,Qh1,if_false]at*;simp[f125,t]
 ·simp only[Sv.w,W.d,W.ds,PD,LD,LL,Qc2,if_true]at*;simp[f125,t]
theorem SL (u v:Int):Ca E1 142 [.d (Sv.s u).w.d,.d (Sv.s v).w.d] (.d (Sv.s (GA .u64 u v)).w.d,none):=by
 refine Ca.bO (n:=60) ?_;rw[aB rfl (aN 142 f142:E1.fn _=_) rfl];simp[f142,Sv.w,W.d,W.ds,PD,LD,LL]
theorem abj (l:List bS):(Sv.p l).w.d=.a [vB false,.s 1 [],.s 1 [],vI 0,vB false,.v (.int .u64 0),bQ l,.s 8 []]:=by
 simp only[Sv.w,W.d,W.ds,LD,LL,Qc2,Fv]
theorem SN {S:Nat}{a b:List bS}(ha:PV S a)(hb:PV S b)(hS:S<=1000)(hm:(a++b).length*(S+1)<=50000):Ca E1 154 [.d (Sv.p a).w.d,.d (Sv.p b).w.d] (.d (Sv.p (jR a b)).w.d,none):=by
 obtain⟨N,t⟩:=(XD ha hb hS hm).get;refine Ca.bO (n:=N+60) ?_;rw[aB rfl (aN 154 f154:E1.fn _=_) rfl];simp only[abj];generalize jR a b=c at*;unfold bQ at*;generalize (a.map fun p=>qC p.1 p.2)=x1,(b.map fun p=>qC p.1 p.2)=x2,(c.map fun p=>qC p.1 p.2)=x3 at*;simp[f154,t]
theorem SQ (x:Rat):0<x.num↔0<x:=by
 have h:=@Rat.num_nonneg (-x);have e:(-x).num=-x.num:=aC;rw[e]at h;have h1:0<x.num↔¬ 0<=-x.num:=ae;have h2:0<x↔¬ 0<=-x:=by grind
 rw[h1,h2,h]
theorem KG (x y:Rat)(hx:qz x<=100000)(hy:qz y<=100000):Ca E1 136 [.d (Sv.q x).w.d,.d (Sv.q y).w.d] (dB (decide (y<x)),none):=by
 obtain⟨N,t⟩:=(Ca.jg (yA x y hx hy)).get;refine Ca.bO (n:=N+60) ?_;rw[aB rfl (aN 136 f136:E1.fn _=_) rfl];have hs:decide ((0:Int)<(x-y).num.sign)=decide (y<x):=by
  rw[decide_eq_decide,Int.sign_pos_iff,SQ];grind
 rw[<-hs];generalize (x-y).num.sign=z at*;simp only[Sv.w,W.d,W.ds,PD,qD,raw,LD,Qc2]at*;generalize qs x=s1,qs y=s2,LL (qn x)=x1,LL (qd x)=x2,LL (qn y)=y1,LL (qd y)=y2 at*;simp[f136,t,LL]
theorem Ox (x y:Rat)(hx:qz x<=90000)(hy:qz y<=90000) :
  ∃ N,∀ (B:List ai) (j:Nat) (c0 c1 c2 c3 c4 c5 c7 c8:FV),B[j]?=some (.box [c0,c1,c2,c3,c4,c5,.d (.fn 136),c7,c8])->∀ k,CL E1 (N+k) 137 [.d (Sv.q x).w.d,.d (Sv.q y).w.d,.r (.old j) 0] B=some (.d (ek 3 (.q x) (.q y)).w.d,none):=by
 have hz:=oU;have hxy:ek 3 (.q x) (.q y)=.q ((if x<y then y else x)+0):=by
  have e:ek 3 (.q x) (.q y)=if x<y then .q y else .q x:=rfl
  have e2:∀ z:Rat,z+0=z:=fun z=>Rat.add_zero z
  rw[e,e2];split<;>rfl
 rw[hxy];obtain⟨M,hM,t1,t2⟩:=((KG y x ae ae).j ((Ca.jg (Fb (if x<y then y else x) 0 (by split<;>omega) ae)).any)).at 0;refine⟨M+100,fun B j c0 c1 c2 c3 c4 c5 c7 c8 hB k => ?_⟩;have hjl:j<B.length:=(aS hB)
 have Ml:∀ L,(B++L)[j]?=some (.box [c0,c1,c2,c3,c4,c5,.d (.fn 136),c7,c8]):=fun L=>by rw[Qa0 hjl];exact hB
 replace t1:=fun m=>t1 (k+m)
 replace t2:=fun m=>t2 (k+m)
 simp only[<-Qv0]at t1 t2;rw[show M+100+k=M+k+100 by omega];generalize M+k=m at*;rw[vL]at t2;rw[aB rfl (aN 137 f137:E1.fn _=_) rfl]
 by_cases h:x<y
 ·rw[if_pos h]at t2 ⊢;rw[decide_eq_true h]at t1;generalize y+0=z at*;simp only[Sv.w,W.d,W.ds,PD,qD,raw,LD,Qc2]at*;generalize qs x=s1,qs y=s2,qs z=s3,LL (qn x)=x1,LL (qd x)=x2,LL (qn y)=y1,LL (qd y)=y2,LL (qn z)=z1,LL (qd z)=z2 at*;simp[f137,t1,t2,Ml,LL]
 ·rw[if_neg h]at t2 ⊢;rw[decide_eq_false h]at t1;generalize x+0=z at*;simp only[Sv.w,W.d,W.ds,PD,qD,raw,LD,Qc2]at*;generalize qs x=s1,qs y=s2,qs z=s3,LL (qn x)=x1,LL (qd x)=x2,LL (qn y)=y1,LL (qd y)=y2,LL (qn z)=z1,LL (qd z)=z2 at*;simp[f137,t1,t2,Ml,LL]
section
def wD (s:Bool)(l1 l2:List D)(c:Int)(b:Bool)(u:Int)(p ps:List D):D:=.a [vB s,.s 1 l1,.s 1 l2,vI c,vB b,.v (.int .u64 u),.s 6 p,.s 8 ps]
theorem W.bq (w:W):∃ s l1 l2 c b u p ps,w.d=wD s l1 l2 c b u p ps:=by
 obtain⟨s,a,b,c,i,u,p,ps⟩:=w;exact⟨s,LL a,LL b,c,i,u,p.map Mo.d,W.ds ps,rfl⟩
section parts
variable (H:List ai) (iv iw i:Nat) (v0 v1 v2 v3 v4 v5 v6 w0 w1 w2 w3 w4 w5 w6:FV) (vs ws:List D) (x y z:W)
theorem SS (hv:H[iv]?=some (.box [v0,v1,v2,v3,v4,v5,v6,.d (.s 8 vs)]))(hw:H[iw]?=some (.box [w0,w1,w2,w3,w4,w5,w6,.d (.s 8 ws)]))(hx:vs[i]?=some x.d)(hy:ws[i]?=some y.d)
  (c0 c1 c2 c4 c5 c6 c7 c8 a b:Nat) (g M:Nat) (t:∀ m,CL E1 (M+m) g [.d x.d,.d y.d] []=some (.d z.d,none)) (m:Nat) :
  CL E1 (M+100+m) 45 [.a [.d (.fn c0),.d (.fn c1),.d (.fn c2),.d (.fn g),.d (.fn c4),.f c5 [] [.r (.old a) 0],.d (.fn c6),.d (.fn c7),.f c8 [] [.r (.old b) 0]],dI i,.r (.old iv) 0,.r (.old iw) 0] H=some (.d z.d,none):=by
 have hvl:iv<H.length:=(aS hv)
 have hwl:iw<H.length:=(aS hw)
 have gv:∀ L,(H++L)[iv]?=some (.box [v0,v1,v2,v3,v4,v5,v6,.d (.s 8 vs)]):=fun L=>by rw[Qa0 hvl];exact hv
 have gw:∀ L,(H++L)[iw]?=some (.box [w0,w1,w2,w3,w4,w5,w6,.d (.s 8 ws)]):=fun L=>by rw[Qa0 hwl];exact hw
 have i1:i<vs.length:=(aS hx)
 have i2:i<ws.length:=(aS hy)
 have hi0:(0:Int)<=(i:Int):=ae;obtain⟨xs,xl1,xl2,xc,xb,xu,xp,xps,ex⟩:=x.bq;obtain⟨ys,yl1,yl2,yc,yb,yu,yp,yps,ey⟩:=y.bq;obtain⟨zs,Gn,Gp,zc,zb,zu,zp,Ic,ez⟩:=z.bq;rw[ex]at hx t;rw[ey]at hy t;rw[ez]at t ⊢;replace t:=fun k=>t (m+k)
 simp only[<-Qv0]at t;rw[show M+100+m=M+m+100 by omega];generalize M+m=n at*;rw[aB rfl (k45:E1.fn _=_) rfl];unfold wD at*;have j1:=idx hx;have j2:=idx hy;simp[f45,t,gv,gw,i1,i2,hi0,j1,j2,hx,hy]
theorem SV (hv:H[iv]?=some (.box [v0,v1,v2,v3,v4,v5,v6,.d (.s 8 vs)]))(hw:H[iw]?=some (.box [w0,w1,w2,w3,w4,w5,w6,.d (.s 8 ws)]))(hx:vs[i]?=some x.d)(hy:ws[i]?=some y.d)
  (c0 c1 c2 c4 c5 c6 c7 c8:Nat) (g M:Nat) (t:∀ m,CL E1 (M+m) g [.d x.d,.d y.d] []=some (.d z.d,none)) (m:Nat) :
  CL E1 (M+100+m) 45 [.d (.a [.fn c0,.fn c1,.fn c2,.fn g,.fn c4,.fn c5,.fn c6,.fn c7,.fn c8]),dI i,.r (.old iv) 0,.r (.old iw) 0] H=some (.d z.d,none):=by
 have hvl:iv<H.length:=(aS hv)
 have hwl:iw<H.length:=(aS hw)
 have gv:∀ L,(H++L)[iv]?=some (.box [v0,v1,v2,v3,v4,v5,v6,.d (.s 8 vs)]):=fun L=>by rw[Qa0 hvl];exact hv
 have gw:∀ L,(H++L)[iw]?=some (.box [w0,w1,w2,w3,w4,w5,w6,.d (.s 8 ws)]):=fun L=>by rw[Qa0 hwl];exact hw
 have i1:i<vs.length:=(aS hx)
 have i2:i<ws.length:=(aS hy)
 have hi0:(0:Int)<=(i:Int):=ae;obtain⟨xs,xl1,xl2,xc,xb,xu,xp,xps,ex⟩:=x.bq;obtain⟨ys,yl1,yl2,yc,yb,yu,yp,yps,ey⟩:=y.bq;obtain⟨zs,Gn,Gp,zc,zb,zu,zp,Ic,ez⟩:=z.bq;rw[ex]at hx t;rw[ey]at hy t;rw[ez]at t ⊢;replace t:=fun k=>t (m+k)
 simp only[<-Qv0]at t;rw[show M+100+m=M+m+100 by omega];generalize M+m=n at*;rw[aB rfl (k45:E1.fn _=_) rfl];unfold wD at*;have j1:=idx hx;have j2:=idx hy;simp[f45,t,gv,gw,i1,i2,hi0,j1,j2,hx,hy]
theorem abm (hv:H[iv]?=some (.box [v0,v1,v2,v3,v4,v5,v6,.d (.s 8 vs)]))(hw:H[iw]?=some (.box [w0,w1,w2,w3,w4,w5,w6,.d (.s 8 ws)]))(hx:vs[i]?=some x.d)(hy:ws[i]?=some y.d)
  (c0 c1 c2 c4 c5 c6 c7 c8 a b:Nat) (j M:Nat) (o:ai) (hj:H[j]?=some o) (ho:∀ n,ai.aA n o=o) (t:∀ B,B[j]?=some o->∀ m,CL E1 (M+m) 137 [.d x.d,.d y.d,.r (.old j) 0] B=some (.d z.d,none)) (m:Nat) :
  CL E1 (M+100+m) 45 [.a [.d (.fn c0),.d (.fn c1),.d (.fn c2),.f 137 [] [.r (.old j) 0],.d (.fn c4),.f c5 [] [.r (.old a) 0],.d (.fn c6),.d (.fn c7),.f c8 [] [.r (.old b) 0]],dI i,.r (.old iv) 0,.r (.old iw) 0] H=some (.d z.d,none):=by
 have hvl:iv<H.length:=(aS hv)
 have hwl:iw<H.length:=(aS hw)
 have hjl:j<H.length:=(aS hj)
 have gv:∀ L,(H++L)[iv]?=some (.box [v0,v1,v2,v3,v4,v5,v6,.d (.s 8 vs)]):=fun L=>by rw[Qa0 hvl];exact hv
 have gw:∀ L,(H++L)[iw]?=some (.box [w0,w1,w2,w3,w4,w5,w6,.d (.s 8 ws)]):=fun L=>by rw[Qa0 hwl];exact hw
 have i1:i<vs.length:=(aS hx)
 have i2:i<ws.length:=(aS hy)
 have hi0:(0:Int)<=(i:Int):=ae;obtain⟨xs,xl1,xl2,xc,xb,xu,xp,xps,ex⟩:=x.bq;obtain⟨ys,yl1,yl2,yc,yb,yu,yp,yps,ey⟩:=y.bq;obtain⟨zs,Gn,Gp,zc,zb,zu,zp,Ic,ez⟩:=z.bq;rw[ex]at hx t;rw[ey]at hy t;rw[ez]at t ⊢;have gj:∀ L,(List.map (ai.aA H.length) H++L)[j]?=some o:=fun L=>by rw[Qa0 (by simpa using hjl),Qc1,hj];exact congrArg some (ho _)
 replace t:=fun L k=>t (List.map (ai.aA H.length) H++L) (gj L) (m+k)
 simp only[<-Qv0]at t;rw[show M+100+m=M+m+100 by omega];generalize M+m=n at*;rw[aB rfl (k45:E1.fn _=_) rfl];unfold wD at*;have j1:=idx hx;have j2:=idx hy;simp[f45,t,FV.aA,FV.aT,gv,gw,i1,i2,hi0,j1,j2,hx,hy]
end parts
end
def SX (k:Int)(o:Nat):FV :=
 if k=1 then qQ else if k=5 then qP
 else if k=2 then .a [(.d (.fn 122)),(.d (.fn 123)),(.d (.fn 124)),(.d (.fn 125)),(.d (.fn 127)),(.f 195 [] [(.r (.old (o+3)) 0)]),(.d (.fn 126)),(.d (.fn 128)),(.f 131 [] [(.r (.old (o+2)) 0)])]
 else if k=3 then .a [(.d (.fn 133)),(.d (.fn 110)),(.d (.fn 111)),(.f 137 [] [(.r (.old (o+2)) 0)]),(.d (.fn 115)),(.f 195 [] [(.r (.old (o+3)) 0)]),(.d (.fn 136)),(.d (.fn 119)),(.f 138 [] [(.r (.old (o+2)) 0)])]
 else .a [(.d (.fn 139)),(.d (.fn 140)),(.d (.fn 141)),(.d (.fn 142)),(.d (.fn 143)),(.f 195 [] [(.r (.old (o+3)) 0)]),(.d (.fn 118)),(.d (.fn 144)),(.f 147 [] [(.r (.old (o+2)) 0)])]
def Di (o:Nat):ai:=.box [(.d (.fn 133)),(.d (.fn 110)),(.d (.fn 111)),(.f 137 [] [(.r (.old (o+2)) 0)]),(.d (.fn 115)),(.f 195 [] [(.r (.old (o+3)) 0)]),(.d (.fn 136)),(.d (.fn 119)),(.f 138 [] [(.r (.old (o+2)) 0)])]
theorem SY (o n:Nat):ai.aA n (Di o)=Di o:=by simp[Di,ai.aA,FV.aA,FV.aT]
def eP (px:FV):ai:=.box [dB false,.d (.n 1),.d (.n 1),dI 0,dB false,.d (.v (.int .u64 0)),.d (.n 6),px]
def uB (px:FV)(L:List ai)(zs:List D):Prop:=(px=.d (.n 8)/\zs=[])\/∃ j az,px=.ls (.loc j) az 8 0 zs.length/\L[j]?=some (.row az 8 zs)
def XN:aF:=f43.body.r.r.l.r.bl.lp
def KH (g iv iw:Nat)(ps:List Int)(i:Nat)(t:FV)(B L:List ai)(dt:Bool:=false):St :=
 {vars:=[.u,.f g [] [.r (.old iv) 0,.r (.old iw) 0],.u,rL 1,rL 2,.u,.u,.d (.s 1 (LK .i64 ps)),dI ps.length,dI i,t],base:=B,loc:=L,aQ:=dt}
def Oy (k:Int):Nat:=if k=2 then 124 else if k=3 then 111 else 141
def Fz (g iv iw:Nat)(vb wb:ai)(k:Int)(i:Nat)(z:W):Prop :=
 ∃ N,∀ (H:List ai) (o:Nat),H[iv]?=some vb->H[iw]?=some wb->(k=3->H[o+2]?=some (Di o))->(k≠1->k≠5->H[o+3]?=some (.box [.d (.fn (Oy k))]))->∀ m,CL E1 (N+m) g [SX k o,dI i,.r (.old iv) 0,.r (.old iw) 0] H=some (.d z.d,none)
def vO (k:Int):FV × Option (List ai):=if k=1 then(qQ,none) else if k=2 then(uk,some qR) else if k=3 then(um,some qU) else if k=4 then(uo,some qV) else(qP,none)
theorem Mv {k:Int}(hk:single k=true):Ca E1 42 [dI k] (vO k):=by
 rcases bR hk with rfl|rfl|rfl|rfl|rfl
 ·exact Ca.jg (Ca.of AB)
 ·exact Ca.jg (Ca.of AL)
 ·exact Ca.jg (Ca.of AO)
 ·exact Ca.jg (Ca.of AP)
 ·exact Ca.jg (Ca.of AJ)
def KI (r:Nat->Ref)(k:Int)(o:Nat):List FV:=if k=2 then [(.d (.fn 122)),(.d (.fn 123)),(.d (.fn 124)),(.d (.fn 125)),(.d (.fn 127)),(.f 195 [] [(.r (r (o+3)) 0)]),(.d (.fn 126)),(.d (.fn 128)),(.f 131 [] [(.r (r (o+2)) 0)])] else if k=3 then [(.d (.fn 133)),(.d (.fn 110)),(.d (.fn 111)),(.f 137 [] [(.r (r (o+2)) 0)]),(.d (.fn 115)),(.f 195 [] [(.r (r (o+3)) 0)]),(.d (.fn 136)),(.d (.fn 119)),(.f 138 [] [(.r (r (o+2)) 0)])] else [(.d (.fn 139)),(.d (.fn 140)),(.d (.fn 141)),(.d (.fn 142)),(.d (.fn 143)),(.f 195 [] [(.r (r (o+3)) 0)]),(.d (.fn 118)),(.d (.fn 144)),(.f 147 [] [(.r (r (o+2)) 0)])]
def Ie (r:Nat->Ref)(k:Int)(o:Nat):List ai:=[.box (KI r k o),.box (KI r k o),.box (KI r k o),.box [.d (.fn (Oy k))]]
theorem S9 (g iv iw:Nat)(ps:List Int)(i:Nat)(k:Int)(B L:List ai)(dt:Bool)(vb wb:ai)(px:FV)(zs:List D)(z:W)(hk:ps[i]?=some k)(hs:single k=true)(hn:ps.length<=3)
  (hv:B[iv]?=some vb) (hw:B[iw]?=some wb) (ov:∀ n,ai.aA n vb=vb) (ow:∀ n,ai.aA n wb=wb) (ahb:Fz g iv iw vb wb k i z) (h1:L[1]?=some (eP (.d (.n 8)))) (h2:L[2]?=some (eP px)) (ho:uB px L zs) (hz:zs.length<=3) :
  ∃ vQ L',Ex E1 XN (KH g iv iw ps i .u B L dt) (.norm,KH g iv iw ps (i+1) .u B L' dt)/\L'[1]?=some (eP (.d (.n 8)))/\L'[2]?=some (eP vQ)/\uB vQ L' (zs++[z.d]):=by
 obtain⟨N,t⟩:=ahb;have hvl:iv<B.length:=(aS hv)
 have hwl:iw<B.length:=(aS hw)
 have h1l:1<L.length:=(aS h1)
 have Oz:2<L.length:=(aS h2)
 have hil:i<ps.length:=(aS hk)
 have n1:(LK .i64 ps).length=ps.length:=by simp[LK]
 have e1:(LK .i64 ps)[i]?=some (vI k):=by simp[LK,hk]
 have aP:av .i64 ((i:Int)+1)=(i:Int)+1:=wrap_i64 ae;have hk1:((i+1:Nat):Int)=(i:Int)+1:=ae;have hk0:(0:Int)<=(i:Int):=ae;have hkc:(i:Int)<(ps.length:Int):=ae;obtain⟨zs1,Gn,Gp,zc,zb,zu,zp,Ic,ez⟩:=z.bq;rw[ez]at t ⊢;unfold wD at*;have hvH:∀ L,(List.map (ai.aA B.length) B++L)[iv]?=some vb:=fun L=>by rw[Qa0 (by simpa using hvl),Qc1,hv];exact congrArg some (ov _)
 have hwH:∀ L,(List.map (ai.aA B.length) B++L)[iw]?=some wb:=fun L=>by rw[Qa0 (by simpa using hwl),Qc1,hw];exact congrArg some (ow _)
 obtain⟨K,t42⟩:=(Mv hs).any;obtain⟨M,hM⟩:∃ M,M=N+K:=⟨_,rfl⟩
 replace t42:=t42 M ae;have five:=bR hs;have g2:∀ X,(L++X)[2]?=some (eP px):=fun X=>by rw[Qa0 Oz];exact h2
 have OA:∀ {j az} (hj:L[j]?=some (.row az 8 zs)),j<L.length/\j≠2/\j≠1/\(∀ X,(L++X)[j]?=some (.row az 8 zs))/\(∀ r,(L.set j r)[2]?=some (eP px))/\∀ r X,(L.set j r++X)[2]?=some (eP px):=fun {j az} hj=>by
  have hjl:j<L.length:=(aS hj)
  have hj2:j≠2:=fun h=>by
   subst h;rw[h2]at hj;cases hj
  have s2:∀ r,(L.set j r)[2]?=some (eP px):=fun r=>by rw[Qc0 hj2];exact h2
  refine⟨hjl,hj2,fun h => ?_,fun X=>by rw[Qa0 hjl];exact hj,s2,fun r X=>by rw[Qa0 (by simpa using Oz)];exact s2 r⟩;subst h;rw[h1]at hj;cases hj
 have m1:(zs.length+1)*128<=1099511627776:=ae;have m2:zs.length+1<=1099511627776:=ae
 by_cases hp:k=1\/k=5
 ·replace t:=fun m=>bX (t (List.map (ai.aA B.length) B++List.map (ai.aA B.length) L) (B.length+L.length) (hvH _) (hwH _) (fun h=>by omega) (fun _ _=>by omega) 0) (show N+0<=M+m by omega)
  rcases ho with ⟨rfl,rfl⟩|⟨j,az,rfl,hj⟩
  ·refine⟨.ls (.loc L.length) 0 8 0 1,(L.set 2 (eP (.ls (.loc L.length) 0 8 0 1)))++[.row 0 8 [(.a [D.v (.bool zs1),.s 1 Gn,.s 1 Gp,vI zc,vB zb,.v (.int .u64 zu),.s 6 zp,.s 8 Ic])]],Ex.of (n:=M+100) ?_,?_,?_,.inr ⟨L.length,0,rfl,aC⟩⟩
   ·unfold KH;rw[hk1];clear hvH hwH ov ow hv hw h1 OA;unfold eP at*;generalize LK .i64 ps=l1 at*;have i1:=idx e1;have i2:=idx h2;rcases hp with rfl|rfl
    all_goals
     simp[SX,vO,qQ,Df,qP]at t42 t;simp[XN,f43,aP,hk0,hkc,hil,n1,i1,t42,t,FV.aA,FV.aT,most,dK,f_,checked,iQ,vR,i2,Oz,g2]
   ·rw[Qa0 (by simpa using h1l),Qc0 ae];exact h1
   ·rw[Qa0 (by simpa using Oz)];exact Qd0 Oz
  ·obtain⟨hjl,hj2,hj1,gj,s2,s2X⟩:=OA hj;refine⟨.ls (.loc j) (az+1) 8 0 (zs.length+1),((L.set j (.row (az+1) 8 (zs++[(.a [D.v (.bool zs1),.s 1 Gn,.s 1 Gp,vI zc,vB zb,.v (.int .u64 zu),.s 6 zp,.s 8 Ic])]))).set 2 (eP (.ls (.loc j) (az+1) 8 0 (zs.length+1)))),Ex.of (n:=M+100) ?_,?_,?_,.inr ⟨j,az+1,aC,?_⟩⟩
   ·unfold KH;rw[hk1];clear hvH hwH ov ow hv hw h1 OA;unfold eP at*;generalize LK .i64 ps=l1 at*;have i1:=idx e1;have i2:=idx h2;have i3:=idx hj;have i4:∀ r (h:2<(L.set j r).length),(L.set j r)[2]=_:=fun r h=>idx (s2 r) h
    rcases hp with rfl|rfl
    all_goals
     simp[SX,vO,qQ,Df,qP]at t42 t;simp[XN,f43,aP,hk0,hkc,hil,n1,i1,t42,t,FV.aA,FV.aT,most,dK,f_,checked,iQ,vR,Ref.abs,i2,i3,i4,Oz,hjl,m1,m2]
   ·rw[Qc0 ae,Qc0 hj1];exact h1
   ·exact Qd0 (by simpa using Oz)
   ·rw[Qc0 (fun h=>hj2 h.symm)];exact Qd0 hjl
 ·replace t:=fun m=>bX (t (List.map (ai.aA B.length) B++(List.map (ai.aA B.length) L++Ie .old k (B.length+L.length))) (B.length+L.length) (hvH _) (hwH _) (fun h=>by subst h;rw[Qb1 (by simp;omega)];simp;rw[Qb1 (by simp;omega)];simp;rw[show B.length+L.length+2-B.length-L.length=2 by omega];rfl) (fun _ _=>by rw[Qb1 (by simp;omega)];simp;rw[Qb1 (by simp;omega)];simp;rw[show B.length+L.length+3-B.length-L.length=3 by omega];rfl) 0) (show N+0<=M+m by omega)
  have hp':k=2\/k=3\/k=4:=ae;rcases ho with ⟨rfl,rfl⟩|⟨j,az,rfl,hj⟩
  ·refine⟨.ls (.loc (L.length+4)) 0 8 0 1,(L.set 2 (eP (.ls (.loc (L.length+4)) 0 8 0 1)))++Ie .loc k L.length++[.row 0 8 [(.a [D.v (.bool zs1),.s 1 Gn,.s 1 Gp,vI zc,vB zb,.v (.int .u64 zu),.s 6 zp,.s 8 Ic])]],Ex.of (n:=M+100) ?_,?_,?_,.inr ⟨(L.length+4),0,rfl,by simp[Ie]⟩⟩
   ·unfold KH;rw[hk1];clear hvH hwH ov ow hv hw h1 OA;unfold eP at*;generalize LK .i64 ps=l1 at*;have i1:=idx e1;have i2:=idx h2;rcases hp' with rfl|rfl|rfl
    all_goals
     simp[SX,vO,uk,oM,qR,um,oN,qU,uo,oO,qV,Ie,KI,Oy]at t42 t;simp only[Qv0]at t;simp[XN,f43,aP,hk0,hkc,hil,n1,i1,t42,t,FV.aA,FV.aT,FV.shift,FV.gz,ai.shift,ai.aA,most,dK,f_,checked,iQ,vR,i2,Oz,Ie,KI,Oy]
   ·rw[Qk2,Qa0 (by simpa using h1l),Qc0 ae];exact h1
   ·rw[Qk2,Qa0 (by simpa using Oz)];exact Qd0 Oz
  ·obtain⟨hjl,hj2,hj1,gj,s2,s2X⟩:=OA hj;refine⟨.ls (.loc j) (az+1) 8 0 (zs.length+1),((L.set j (.row (az+1) 8 (zs++[(.a [D.v (.bool zs1),.s 1 Gn,.s 1 Gp,vI zc,vB zb,.v (.int .u64 zu),.s 6 zp,.s 8 Ic])]))).set 2 (eP (.ls (.loc j) (az+1) 8 0 (zs.length+1))))++Ie .loc k L.length,Ex.of (n:=M+100) ?_,?_,?_,.inr ⟨j,az+1,aC,?_⟩⟩
   ·unfold KH;rw[hk1];clear hvH hwH ov ow hv hw h1 OA;unfold eP at*;have i1:=idx e1;have i2:=idx h2;have i3:=idx hj;have i4:∀ r (h:2<(L.set j r).length),(L.set j r)[2]=_:=fun r h=>idx (s2 r) h
    rcases hp' with rfl|rfl|rfl
    all_goals
     simp[SX,vO,uk,oM,qR,um,oN,qU,uo,oO,qV,Ie,KI,Oy]at t42 t;simp only[Qv0]at t;simp[XN,f43,aP,hk0,hkc,hil,n1,i1,t42,t,FV.aA,FV.aT,FV.shift,FV.gz,ai.shift,ai.aA,most,dK,f_,checked,iQ,vR,Ref.abs,i2,i4,Oz,hjl,gj,m1,m2,Ie,KI,Oy]
   ·rw[Qa0 (by simpa using h1l)];rw[Qc0 ae,Qc0 hj1];exact h1
   ·rw[Qa0 (by simpa using Oz)];exact Qd0 (by simpa using Oz)
   ·rw[Qa0 (by simpa using hjl)];rw[Qc0 (fun h=>hj2 h.symm)];exact Qd0 hjl
theorem oZ {E:Env}{g:Nat}{F:bI}{args:List FV}{B:List ai}{o:Out}{st1:St}{r:FV × Option (List ai)}(hp:E.iK g=none)(hf:E.fn g=some F)(hl:args.length=F.np)
  (h:Ex E F.body {vars:=args++List.replicate (F.nv-F.np) .u,base:=B,loc:=[],aQ:=false} (o,st1)) (ho:∀ id,o≠.exit id) (hr:finish F st1=some r):∃ N,∀ m,CL E (N+m) g args B=some r:=by
 obtain⟨n0,h⟩:=h;refine⟨n0,fun m => ?_⟩;rw[iZ,zK hp hf hl,h (n0+m) ae];cases o with
 | exit id=>exact absurd rfl (ho id)
 | norm=>exact hr
 | ret=>exact hr
def gW (zs:List W):W:=.mk false [] [] 0 false 0 [] zs
theorem XO (g iv iw:Nat)(ps:List Int)(B:List ai)(vb wb:ai)(zs:List W)(hs:∀ k ∈ ps,single k=true)(hn:ps.length<=3)(hz:zs.length=ps.length)
  (hv:B[iv]?=some vb) (hw:B[iw]?=some wb) (ov:∀ n,ai.aA n vb=vb) (ow:∀ n,ai.aA n wb=wb) (hst:∀ i k z,ps[i]?=some k->zs[i]?=some z->Fz g iv iw vb wb k i z)
  (L:List ai) (h1:L[1]?=some (eP (.d (.n 8)))) (h2:L[2]?=some (eP (.d (.n 8)))) :
  ∃ vQ L',Ex E1 (.loop XN) (KH g iv iw ps 0 .u B L) (.exit 0,KH g iv iw ps ps.length (dB false) B L')/\L'[1]?=some (eP (.d (.n 8)))/\L'[2]?=some (eP vQ)/\uB vQ L' (W.ds zs):=by
 obtain⟨r,hx,vQ,L',rfl,h5,h3,h4⟩:=Ex.inv (E:=E1) (b:=XN) (α:=Nat × FV × List ai) (S:=fun a=>KH g iv iw ps a.1 .u B a.2.2) (fun a=>ps.length-a.1)
  (fun a=>a.1<=ps.length/\a.2.2[1]?=some (eP (.d (.n 8)))/\a.2.2[2]?=some (eP a.2.1)/\uB a.2.1 a.2.2 (W.ds (zs.take a.1)))
  (fun r=>∃ vQ L',r=(.exit 0,KH g iv iw ps ps.length (dB false) B L')/\L'[1]?=some (eP (.d (.n 8)))/\L'[2]?=some (eP vQ)/\uB vQ L' (W.ds zs)) (by
   rintro⟨i,px,L⟩ ⟨q1,q0,q2,q3⟩;simp only at q1 q0 q2 q3
   by_cases hi:i<ps.length
   ·have hk:ps[i]?=some ps[i]:=Qa1 hi;have hzi:zs[i]?=some (zs[i]'(by omega)):=Qa1 ae;have hlen:(W.ds (zs.take i)).length<=3:=by simp[W.fI];omega
    obtain⟨vQ,L',g1,g0,g2,g3⟩:=S9 g iv iw ps i ps[i] B L false vb wb px _ _ hk (hs _ (Qj1 hi)) hn hv hw ov ow (hst i _ _ hk hzi) q0 q2 q3 hlen;refine .inl ⟨(i+1,vQ,L'),g1,by show ps.length-(i+1)<ps.length-i;omega,by show i+1<=_;omega,g0,g2,?_⟩;show uB vQ L' (W.ds (zs.take (i+1)));rw[Xi1,hzi];have e:W.ds (zs.take i++[zs[i]'(by omega)])=W.ds (zs.take i)++[(zs[i]'(by omega)).d]:=by simp only[W.fI,Qr0,Qe1,Qc2]
    show uB vQ L' (W.ds (zs.take i++[zs[i]'(by omega)]));rw[e];exact g3
   ·obtain rfl:i=ps.length:=ae;rw[<-hz,Qj0]at q3;refine .inr ⟨_,Ex.of (n:=60) ?_,?_,px,L,rfl,q0,q2,q3⟩
    ·unfold KH;generalize ps.length=n at*;simp[XN,f43]
    ·simp) (0,.d (.n 8),L) ⟨Qy1 _,h1,h2,.inl ⟨rfl,rfl⟩⟩
 exact⟨vQ,L',hx,h5,h3,h4⟩
theorem S_ (g iv iw:Nat)(kk:Int)(ps:List Int)(B:List ai)(vb wb:ai)(zs:List W)(hs:∀ k ∈ ps,single k=true)(hn:ps.length<=3)(hz:zs.length=ps.length)
  (hv:B[iv]?=some vb) (hw:B[iw]?=some wb) (ov:∀ n,ai.aA n vb=vb) (ow:∀ n,ai.aA n wb=wb) (hst:∀ i k z,ps[i]?=some k->zs[i]?=some z->Fz g iv iw vb wb k i z) :
  ∃ N,∀ m,CL E1 (N+m) 43 [.d (bD kk ps),.f g [] [.r (.old iv) 0,.r (.old iw) 0]] B=some (.d (gW zs).d,none):=by
 have n1:(LK .i64 ps).length=ps.length:=by simp[LK]
 have hA:Ex E1 f43.body.l {vars:=(.d (bD kk ps)::.f g [] [.r (.old iv) 0,.r (.old iw) 0]::CK),base:=B,loc:=[],aQ:=false}
   (.norm,{vars:=(.u::.f g [] [.r (.old iv) 0,.r (.old iw) 0]::rL 0::rL 1::nO),base:=B,loc:=[.box [dI kk,.d (.s 1 (LK .i64 ps))],eP (.d (.n 8))],aQ:=false}):=by
  apply e6;unfold bD eP;generalize LK .i64 ps=l1 at*;simp[f43]
 have hB := nx hA f43.body.r.l {vars:=(.u::.f g [] [.r (.old iv) 0,.r (.old iw) 0]::rL 0::rL 1::rL 2::qm),base:=B,loc:=[.box [dI kk,.d (.s 1 (LK .i64 ps))],eP (.d (.n 8)),eP (.d (.n 8))],aQ:=false} (by
  apply e6;unfold eP;generalize LK .i64 ps=l1 at*;simp[f43])
 have hC := nx hB f43.body.r.r.l.l (KH g iv iw ps 0 .u B [.box [dI kk,.d (.s 1 (LK .i64 ps))],eP (.d (.n 8)),eP (.d (.n 8))]) (by
  apply e6;unfold KH eP;generalize LK .i64 ps=l1 at*;simp[f43,n1])
 obtain⟨px,L,hl,h1,h2,ho⟩:=XO g iv iw ps B vb wb zs hs hn hz hv hw ov ow hst [.box [dI kk,.d (.s 1 (LK .i64 ps))],eP (.d (.n 8)),eP (.d (.n 8))] rfl rfl;have hds:(gW zs).d=.a [vB false,.s 1 [],.s 1 [],vI 0,vB false,.v (.int .u64 0),.s 6 [],.s 8 (W.ds zs)]:=rfl;have h1l:1<L.length:=(aS h1)
 have hD:Ex E1 f43.body.r.r.r (KH g iv iw ps ps.length (dB false) B L)
   (.ret,{vars:=(.u::.u::.u::rL 1::nO),base:=B,loc:=L.set 1 (eP px),aQ:=false}):=by
  apply e6;unfold KH eP at*;have i1:=idx h1;have i2:=idx h2;rcases ho with ⟨rfl,_⟩|⟨j,az,rfl,_⟩
  ·simp[f43,h1,h2,i1,i2,h1l]
  ·simp[f43,h1,h2,i1,i2,h1l]
 refine oZ (o:=.ret) (st1:={vars:=(.u::.u::.u::rL 1::nO),base:=B,loc:=L.set 1 (eP px),aQ:=false}) rfl (aN 43 f43:E1.fn _=_) rfl ?_ (by intro id h;cases h) ?_
 ·show Ex E1 (.seq f43.body.l (.seq f43.body.r.l (.seq (.seq f43.body.r.r.l.l (.block 0 (.loop XN))) f43.body.r.r.r))) _ _;exact hA.seq (hB.seq ((hC.seq hl.block).seq hD))
 ·rw[hds];unfold eP at*;have s1:∀ o,(L.set 1 o)[1]?=some o:=fun o=>Qd0 h1l
  rcases ho with ⟨rfl,e⟩|⟨j,az,rfl,hj⟩
  ·rw[e];simp[f43,s1]
  ·have hj1:j≠1:=fun h=>by
    subst h;rw[h1]at hj;cases hj
   have sj:∀ o,(L.set 1 o)[j]?=some (.row az 8 (W.ds zs)):=fun o=>by rw[Qc0 (fun h=>hj1 h.symm)];exact hj
   have ev:ai.view az 8 0 (W.ds zs).length (.row az 8 (W.ds zs))=some (W.ds zs):=by simp[ai.view]
   generalize W.ds zs=es at*;simp[f43,s1,sj,ev]
theorem Mw {k:Int}{ps:List Int}(h:aR k ps=true)(n:Nat):CL E1 (n+500) 31 [.d (bD k ps)] []=some (dB true,none):=by
 have:=(Ca.jg (Ca.bO (oK 0 k ps)))
 have t:=oK n k ps;rw[h]at t;rw[iZ]at t ⊢;exact qZ uu (vK uu _) t
theorem sv1 {k:Int}(hk:single k=true):aR k []=true:=by
 rcases bR hk with rfl|rfl|rfl|rfl|rfl<;>rfl
section
section parts
variable (H:List ai) (iv iw i:Nat) (v0 v1 v2 v3 v4 v5 v6 w0 w1 w2 w3 w4 w5 w6:FV) (vs ws:List D) (x y z:W)
end parts
end
section
def Mx (k:Int):Nat:=if k=1 then 113 else if k=2 then 125 else if k=4 then 142 else 154
def MB (k:Int)(x y z:W):Prop :=
 ∃ N,(k=3->∀ (B:List ai) (j o:Nat),B[j]?=some (Di o)->∀ m,CL E1 (N+m) 137 [.d x.d,.d y.d,.r (.old j) 0] B=some (.d z.d,none)) /\
  (k≠3->∀ m,CL E1 (N+m) (Mx k) [.d x.d,.d y.d] []=some (.d z.d,none))
section steps
variable {iv iw i:Nat} {v0 v1 v2 v3 v4 v5 v6 w0 w1 w2 w3 w4 w5 w6:FV} {vs ws:List D} {x y z:W} {k:Int}
theorem OB (hk:single k=true)(h:MB k x y z)(hx:vs[i]?=some x.d)(hy:ws[i]?=some y.d):Fz 45 iv iw (.box [v0,v1,v2,v3,v4,v5,v6,.d (.s 8 vs)]) (.box [w0,w1,w2,w3,w4,w5,w6,.d (.s 8 ws)]) k i z:=by
 obtain⟨N,t3,t⟩:=h;refine⟨N+100,fun H o hv hw h3 _ m => ?_⟩;rcases bR hk with rfl|rfl|rfl|rfl|rfl
 ·exact SV H iv iw i v0 v1 v2 v3 v4 v5 v6 w0 w1 w2 w3 w4 w5 w6 vs ws x y z hv hw hx hy 108 110 111 115 117 118 119 121 113 N (t fV) m
 ·exact SS H iv iw i v0 v1 v2 v3 v4 v5 v6 w0 w1 w2 w3 w4 w5 w6 vs ws x y z hv hw hx hy 122 123 124 127 195 126 128 131 (o+3) (o+2) 125 N (t fV) m
 ·exact abm H iv iw i v0 v1 v2 v3 v4 v5 v6 w0 w1 w2 w3 w4 w5 w6 vs ws x y z hv hw hx hy 133 110 111 115 195 136 119 138 (o+3) (o+2) (o+2) N (Di o) (h3 rfl) (SY o) (fun B hB m=>t3 rfl B (o+2) o hB m) m
 ·exact SS H iv iw i v0 v1 v2 v3 v4 v5 v6 w0 w1 w2 w3 w4 w5 w6 vs ws x y z hv hw hx hy 139 140 141 143 195 118 144 147 (o+3) (o+2) 142 N (t fV) m
 ·exact SV H iv iw i v0 v1 v2 v3 v4 v5 v6 w0 w1 w2 w3 w4 w5 w6 vs ws x y z hv hw hx hy 149 151 152 156 158 118 160 163 154 N (t fV) m
end steps
theorem Ta {k:Int}(hk:single k=true)(v w x y z:W)(hv:Ca E1 41 [.d (bD k []),.d v.d] (.d x.d,none))(hw:Ca E1 41 [.d (bD k []),.d w.d] (.d y.d,none))(h:MB k x y z):Ca E1 14 [.d (bD k []),.d v.d,.d w.d] (.d z.d,none):=by
 obtain⟨N3,t3,t⟩:=h;obtain⟨N1,t1⟩:=hv.any;obtain⟨N2,t2⟩:=hw.any;obtain⟨N4,t42⟩:=(Mv hk).any;obtain⟨K,hK⟩:∃ K,K=N1+N2+N4+N3+500:=⟨_,rfl⟩
 replace t1:=t1 K ae;replace t2:=t2 K ae;replace t42:=t42 K ae;replace t:=fun h m=>bX (t h 0) (show N3+0<=K+m by omega)
 replace t3:=fun h B j o hB m=>bX (t3 h B j o hB 0) (show N3+0<=K+m by omega)
 have t31:=fun m=>bX (Mw (sv1 hk) 0) (show 0+500<=K+m by omega)
 obtain⟨vs,vl1,vl2,vc,vb,vu,vp,vps,ev⟩:=v.bq;obtain⟨ws,wl1,wl2,wc,wb,wu,wp,wps,ew⟩:=w.bq;obtain⟨xs,xl1,xl2,xc,xb,xu,xp,xps,ex⟩:=x.bq;obtain⟨ys,yl1,yl2,yc,yb,yu,yp,yps,ey⟩:=y.bq;obtain⟨zs,Gn,Gp,zc,zb,zu,zp,Ic,ez⟩:=z.bq;simp only[ev,ew,ex,ey,ez]at t1 t2 t t3 ⊢;clear ev ew ex ey ez hK hv hw;refine Ca.bO (n:=K+100) ?_;rw[aB rfl (k14:E1.fn _=_) rfl];unfold wD bD at*;simp only[show LK .i64 []=[] from rfl]at*;rcases bR hk with rfl|rfl|rfl|rfl|rfl
 ·replace t:=t fV;simp[Mx,vO,qQ,Df]at t42 t;simp[f14,t31,t1,t2,t42,t]
 ·replace t:=t fV;simp[Mx,vO,uk,oM,qR]at t42 t;simp[f14,t31,t1,t2,t42,t,FV.shift,FV.gz,ai.shift]
 ·replace t3:=t3 rfl [.box [dI 3,.d (.s 1 [])],.box [dB xs,.d (.s 1 xl1),.d (.s 1 xl2),dI xc,dB xb,.d (.v (.int .u64 xu)),.d (.s 6 xp),.d (.s 8 xps)],.box [dB ys,.d (.s 1 yl1),.d (.s 1 yl2),dI yc,dB yb,.d (.v (.int .u64 yu)),.d (.s 6 yp),.d (.s 8 yps)],eP (.d (.n 8)),Di 4,Di 4,Di 4,.box [.d (.fn 111)]] 6 4 rfl;unfold Di eP at t3;simp[vO,um,oN,qU]at t42;simp[f14,t31,t1,t2,t42,t3,FV.aA,FV.aT,FV.shift,FV.gz,ai.shift,ai.aA]
 all_goals
  replace t:=t fV;simp[Mx,vO,uo,oO,qV,qP]at t42 t;simp[f14,t31,t1,t2,t42,t,FV.shift,FV.gz,ai.shift]
def Ig (xs:List W):ai:=.box [dB false,.d (.s 1 []),.d (.s 1 []),dI 0,dB false,.d (.v (.int .u64 0)),.d (.s 6 []),.d (.s 8 (W.ds xs))]
theorem Ih (xs:List W)(n:Nat):ai.aA n (Ig xs)=Ig xs:=by simp[Ig,ai.aA,FV.aT,FV.aA]
theorem rg6 {ps:List Int}(h:aR 6 ps=true):ps.length<=3/\2<=ps.length/\∀ k ∈ ps,single k=true:=by
 unfold aR at h;rw[if_neg aC]at h;simp only[Qa2,decide_eq_true_eq,Qf0]at h;exact⟨h.1.2,h.1.1,h.2⟩
theorem Tc {ps:List Int}(hv:aR 6 ps=true)(v w:W)(xs ys zs:List W)(lx:xs.length=ps.length)(ly:ys.length=ps.length)(lz:zs.length=ps.length)
  (h1:Ca E1 41 [.d (bD 6 ps),.d v.d] (.d (gW xs).d,none)) (h2:Ca E1 41 [.d (bD 6 ps),.d w.d] (.d (gW ys).d,none))
  (h:∀ (i:Nat) (k:Int) (x y z:W),ps[i]?=some k->xs[i]?=some x->ys[i]?=some y->zs[i]?=some z->MB k x y z):Ca E1 14 [.d (bD 6 ps),.d v.d,.d w.d] (.d (gW zs).d,none):=by
 obtain⟨a1,a2,a3⟩:=rg6 hv;obtain⟨N3,t43⟩:=S_ 45 1 2 6 ps [.box [dI 6,.d (.s 1 (LK .i64 ps))],Ig xs,Ig ys,eP (.d (.n 8))] (Ig xs) (Ig ys) zs a3 a1 lz rfl rfl (Ih xs) (Ih ys) (fun i k z hk hz=>by
  have hi:i<ps.length:=(aS hk)
  have hx:xs[i]?=some (xs[i]'(by omega)):=Qa1 (show i<xs.length by omega);have hy:ys[i]?=some (ys[i]'(by omega)):=Qa1 (show i<ys.length by omega);exact OB (a3 k (Qb2 hk)) (h i k _ _ z hk hx hy hz) (by rw[W.fI,Qc1,hx];rfl) (by rw[W.fI,Qc1,hy];rfl))
 obtain⟨N1,t1⟩:=h1.any;obtain⟨N2,t2⟩:=h2.any;obtain⟨N,hN⟩:∃ N,N=N1+N2+N3+500:=⟨_,rfl⟩
 replace t1:=t1 N ae;replace t2:=t2 N ae;replace t43:=fun m=>bX (t43 0) (show N3+0<=N+m by omega)
 have t31:=fun m=>bX (Mw hv 0) (show 0+500<=N+m by omega)
 obtain⟨vs,vl1,vl2,vc,vb,vu,vp,vps,ev⟩:=v.bq;obtain⟨ws,wl1,wl2,wc,wb,wu,wp,wps,ew⟩:=w.bq;have ex:∀ zs:List W,(gW zs).d=.a [vB false,.s 1 [],.s 1 [],vI 0,vB false,.v (.int .u64 0),.s 6 [],.s 8 (W.ds zs)]:=fun _=>rfl
 rw[ev,ex]at t1;rw[ew,ex]at t2;rw[ex]at t43;rw[ev,ew,ex];unfold wD bD Ig eP at*;clear ev ew ex hN h h1 h2 a1 a2 a3 lx ly lz hv;refine Ca.bO (n:=N+100) ?_;rw[aB rfl (k14:E1.fn _=_) rfl];generalize W.ds xs=x1,W.ds ys=x2,W.ds zs=x3 at*;simp[f14,t31,t1,t2,t43,FV.aA,FV.aT,ai.aA]
end
def gX (k:Int):Sv:=if k=2 then .c true 0 else if k=4 then .s 0 else if k=5 then .p [] else .q 0
theorem Td {k:Int}(hk:single k=true)(S M:Nat)(hS:1<=S):(gX k).of k S M:=by
 rcases bR hk with rfl|rfl|rfl|rfl|rfl
 ·exact⟨.inl rfl,Qe2 oU hS⟩
 ·exact⟨rfl,fV,fV,fun _=>rfl⟩
 ·exact⟨.inr ⟨rfl,fV,fV⟩,Qe2 oU hS⟩
 ·exact⟨rfl,fV,fV⟩
 ·exact⟨rfl,PV.nil S,Qy1 _⟩
theorem Ii {k:Int}(hk:single k=true){S M:Nat}(hS:S<=1000)(hM:(M+M)*(S+1)<=50000){x y:Sv}(hx:x.of k S M)(hy:y.of k S M):MB k x.w y.w (ek k x y).w:=by
 rcases bR hk with rfl|rfl|rfl|rfl|rfl
 ·cases x with
  | q x=>cases y with
   | q y =>
    obtain⟨N,t⟩:=(SH x y (by have:=hx.2;omega) (by have:=hy.2;omega)).get;exact⟨N,fun h=>absurd h fV,fun _=>t⟩
   | c j m=>exact absurd hy.1 fV
   | s v=>exact absurd hy.1 fV
   | p b=>exact absurd hy.1 fV
  | c i n=>exact absurd hx.1 fV
  | s u=>exact absurd hx.1 fV
  | p a=>exact absurd hx.1 fV
 ·cases x with
  | c i n=>cases y with
   | c j m =>
    obtain⟨N,t⟩:=(SK i j n m).get;exact⟨N,fun h=>absurd h fV,fun _=>t⟩
   | q y=>rcases hy.1 with h | h;exact absurd h fV;exact absurd h.1 fV
   | s v=>exact absurd hy.1 fV
   | p b=>exact absurd hy.1 fV
  | q x=>rcases hx.1 with h | h;exact absurd h fV;exact absurd h.1 fV
  | s u=>exact absurd hx.1 fV
  | p a=>exact absurd hx.1 fV
 ·cases x with
  | q x=>cases y with
   | q y =>
    obtain⟨N,t⟩:=Ox x y (by have:=hx.2;omega) (by have:=hy.2;omega);exact⟨N,fun _ B j o hB m=>t B j _ _ _ _ _ _ _ _ hB m,fun h=>absurd rfl h⟩
   | c j m=>exact absurd hy.1 fV
   | s v=>exact absurd hy.1 fV
   | p b=>exact absurd hy.1 fV
  | c i n=>exact absurd hx.1 fV
  | s u=>exact absurd hx.1 fV
  | p a=>exact absurd hx.1 fV
 ·cases x with
  | s u=>cases y with
   | s v =>
    obtain⟨N,t⟩:=(SL u v).get;exact⟨N,fun h=>absurd h fV,fun _=>t⟩
   | q y=>rcases hy.1 with h | h;exact absurd h fV;exact absurd h.1 fV
   | c j m=>exact absurd hy.1 fV
   | p b=>exact absurd hy.1 fV
  | q x=>rcases hx.1 with h | h;exact absurd h fV;exact absurd h.1 fV
  | c i n=>exact absurd hx.1 fV
  | p a=>exact absurd hx.1 fV
 ·cases x with
  | p a=>cases y with
   | p b =>
    have h1:(a++b).length*(S+1)<=50000:=by
     have:=hx.2.2;have:=hy.2.2;refine Qe2 (Qh2 _ ?_) hM;rw[Qb0];omega
    obtain⟨N,t⟩:=(SN hx.2.1 hy.2.1 hS h1).get;exact⟨N,fun h=>absurd h fV,fun _=>t⟩
   | q y=>rcases hy.1 with h | h;exact absurd h fV;exact absurd h.1 fV
   | c j m=>exact absurd hy.1 fV
   | s v=>exact absurd hy.1 fV
  | q x=>rcases hx.1 with h | h;exact absurd h fV;exact absurd h.1 fV
  | c i n=>exact absurd hx.1 fV
  | s u=>exact absurd hx.1 fV
inductive W.Sm (S:Nat):W->Prop
 | mk {s:Bool} {a b:List Nat} {c:Int} {i:Bool} {u:Int} {p:List Mo} {ps:List W} (ha:bP a) (hb:bP b) (la:a.length<=S) (lb:b.length<=S) (hp:∀ m ∈ p,bP m.a/\bP m.b/\m.a.length<=S/\m.b.length<=S) (hu:AU u)
   (h:∀ w ∈ ps,W.Sm S w):W.Sm S (.mk s a b c i u p ps)
def W.Te:W->List Mo
 | .mk _ _ _ _ _ _ p _=>p
theorem sJ {a b:Int}:(a==b)=true↔a=b:=aC
theorem Tf {k:Int}(hk:single k=true){S M:Nat}(hS:1<=S){w:W}(hw:w.Sm S)(hM:w.Te.length<=M)(h:dV k w=true):∃ x:Sv,w=x.w/\x.of k S M:=by
 obtain⟨s,a,b,c,i,u,p,ps⟩:=w;cases hw with
 | mk ha hb la lb hp hu hps =>
  rcases bR hk with rfl|rfl|rfl|rfl|rfl
  ·simp only[dV,if_true,Qa2,Qo0,sJ,Xj1]at h;obtain⟨h1,⟨⟨⟨rfl,rfl⟩,rfl⟩,rfl⟩,rfl⟩:=h;obtain⟨e1,e2,e3⟩:=abh ha hb h1;have hz:=lZ ha hb S la lb hS h1;generalize bL s a b=x at*;subst e1 e2 e3;exact⟨.q x,rfl,.inl rfl,hz⟩
  ·simp only[dV,show ¬ (2:Int)=1 by decide,if_false,if_true,Qa2,Xg1,Qo0,sJ,Xj1,decide_eq_true_eq,Fy]at h;obtain⟨⟨⟨h1,h2⟩,h3⟩,⟨⟨⟨rfl,rfl,rfl⟩,rfl⟩,rfl⟩,rfl⟩:=h;exact⟨.c i c,rfl,rfl,h1,h2,fun hi=>by rcases h3 with h3|h3;rw[hi]at h3;cases h3;exact h3⟩
  ·simp only[dV,show ¬ (3:Int)=1 by decide,show ¬ (3:Int)=2 by decide,if_false,if_true,Qa2,Qo0,sJ,Xj1,decide_eq_true_eq,decide_eq_false_iff_not]at h;obtain⟨⟨⟨h1,⟨⟨⟨rfl,rfl⟩,rfl⟩,rfl⟩,rfl⟩,h2⟩,h3⟩:=h;obtain⟨e1,e2,e3⟩:=abh ha hb h1;have hz:=lZ ha hb S la lb hS h1;generalize bL s a b=x at*;subst e1 e2 e3;refine⟨.q x,rfl,.inr ⟨rfl,?_,by grind⟩,hz⟩;rw[Int.sign_nonneg_iff]at h2;exact Rat.num_nonneg.1 h2
  ·simp only[dV,show ¬ (4:Int)=1 by decide,show ¬ (4:Int)=2 by decide,show ¬ (4:Int)=3 by decide,if_false,if_true,Qa2,Qo0,sJ,Xj1,Fy]at h;obtain⟨⟨⟨⟨⟨rfl,rfl,rfl⟩,rfl⟩,rfl⟩,rfl⟩,rfl⟩:=h;exact⟨.s u,rfl,rfl,hu⟩
  ·simp only[dV,show ¬ (5:Int)=1 by decide,show ¬ (5:Int)=2 by decide,show ¬ (5:Int)=3 by decide,show ¬ (5:Int)=4 by decide,if_false,Qa2,Qo0,sJ,Xj1,Fy]at h;obtain⟨h1,⟨⟨⟨⟨rfl,rfl,rfl⟩,rfl⟩,rfl⟩,rfl⟩,rfl⟩:=h;obtain⟨es,rfl,hpv,_⟩:=Mt hp hS h1;exact⟨.p es,rfl,rfl,hpv,by simpa[W.Te] using hM⟩
theorem FB:q0 false [] []=true:=rfl
theorem Tg {k:Int}{S M:Nat}{x:Sv}(h:x.of k S M):dV k x.w=true:=by
 cases x with
 | q x =>
  obtain⟨h1,h2⟩:=h;have hv:=rU x;rcases h1 with rfl|⟨rfl,h0,h1⟩
  ·simp[dV,Sv.w,hv]
  ·have e:bL (qs x) (qn x) (qd x)=x:=Ri x;have h3:(0:Int)<=x.num.sign:=Int.sign_nonneg_iff.2 (Rat.num_nonneg.2 h0);have h4:¬ (1:Rat)<x:=by grind
   simp[dV,Sv.w,hv,e,h3,h4]
 | c i n =>
  obtain⟨rfl,h1,h2,h3⟩:=h;cases i with
  | false=>simp[dV,Sv.w,h1,h2,FB]
  | true =>
   have:=h3 rfl;subst this;simp[dV,Sv.w,FB]
 | s u =>
  obtain⟨rfl,_⟩:=h;simp[dV,Sv.w,FB]
 | p l =>
  obtain⟨rfl,h1,_⟩:=h;have:=zH h1 (q:=none) (fun m hm=>by cases hm);simp[dV,Sv.w,FB,this]
theorem Ti {k:Int}{S M:Nat}{x:Sv}(h:x.of k S M)(hS:S<=1000):x.w.OK:=by
 have hl:bP []:=fun _ h=>(by cases h)
 have hp0:Po []:=⟨fun _ h=>(by cases h),aC⟩
 have hw0:∀ w ∈ ([]:List W),w.OK:=fun _ h=>(by cases h)
 cases x with
 | q x =>
  have h1:(qn x).length<=qz x:=Q61 _ _;have h2:(qd x).length<=qz x:=by
   unfold qd;split
   ·simp
   ·exact Q22 _ _
  have:=h.2;exact .mk (E8 x) (E9 x) ae ae hp0 aC hw0
 | c i n=>exact .mk hl hl aC aC hp0 aC hw0
 | s u=>exact .mk hl hl aC aC hp0 aC hw0
 | p l=>exact .mk hl hl aC aC (Sq h.2.1 hS) aC hw0
theorem XP (u v:Int):AU (GA .u64 u v):=by
 have h:=Go.wf_wrap .u64 ((BitVec.ofInt 64 u ||| BitVec.ofInt 64 v).toNat:Int);simp only[Lit.wf,Qa2,decide_eq_true_eq]at h;have e1:IntKind.min .u64=0:=by rfl
 have e2:IntKind.max .u64=18446744073709551615:=by rfl
 rw[e1,e2]at h;have e3:GA .u64 u v=IntKind.wrap .u64 ((BitVec.ofInt 64 u ||| BitVec.ofInt 64 v).toNat:Int):=xh ..;rw[e3];unfold AU;omega
theorem FC {k:Int}{ps:List Int}(hl:ps.length<=1000000){w:W}(hw:w.OK)(h:bU k ps w=true):Ca E1 41 [.d (bD k ps),.d w.d] (.d w.d,none):=by
 have t0:=AR k ps w hl hw;rw[h]at t0;obtain⟨N,t⟩:=(Ca.jg t0).get;obtain⟨vs,vl1,vl2,vc,vb,vu,vp,vps,ev⟩:=w.bq;rw[ev]at t ⊢;refine Ca.bO (n:=N+60) ?_;rw[aB rfl (aN 41 f41:E1.fn _=_) rfl];unfold wD bD at*;clear ev t0;simp[f41,t]
end Fi.S
