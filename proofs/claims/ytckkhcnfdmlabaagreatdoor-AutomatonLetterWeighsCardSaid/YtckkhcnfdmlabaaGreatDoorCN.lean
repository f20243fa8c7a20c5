import Derived.Test.YtckkhcnfdmlabaaGreatDoorCL
set_option linter.unusedVariables false
set_option linter.unusedSimpArgs false
noncomputable section
namespace Fi.S
open Go Fi
set_option maxHeartbeats 8000000
inductive Sv where
 | q (x:Rat)
 | c (i:Bool) (n:Int)
 | s (u:Int)
 | p (l:List bz)
def Sv.w:Sv->W
 | .q x=>.mk (qs x) (qn x) (qd x) 0 false 0 [] []
 | .c i n=>.mk false [] [] n i 0 [] []
 | .s u=>.mk false [] [] 0 false u [] []
 | .p l=>.mk false [] [] 0 false 0 (l.map sW) []
def Sv.of (k:Int)(S M:Nat):Sv->Prop
 | .q x=>(k=1\/(k=3/\0<=x/\x<=1))/\qz x<=S
 | .c i n=>k=2/\0<=n/\n<=1099511627776/\(i=true->n=0)
 | .s u=>k=4/\AY u
 | .p l=>k=5/\PV S l/\l.length<=M
theorem Sv.of.mono {k:Int}{S T M M':Nat}{x:Sv}(h:x.of k S M)(hST:S<=T)(hM:M<=M'):x.of k T M':=by
 cases x with
 | q x=>exact⟨h.1,Nat.le_trans h.2 hST⟩
 | c i n=>exact h
 | s u=>exact h
 | p l=>exact⟨h.1,h.2.1.mono hST,Nat.le_trans h.2.2 hM⟩
theorem YX {s s':Bool}{a b a' b':List Nat}(h:raw s a b=raw s' a' b'):s=s'/\a=a'/\b=b':=by
 have inj:∀ {x y:List Nat},LL x=LL y->x=y:=by
  intro x
  induction x with
  | nil=>intro y hy;cases y with
   | nil=>rfl
   | cons z r=>cases hy
  | cons z r ih =>
   intro y hy;cases y with
   | nil=>cases hy
   | cons z' r' =>
    simp only[LL,List.map_cons,List.cons.injEq,D.v.injEq,Value.int.injEq,true_and]at hy;have h1:z=z':=by omega
    have h2:=ih (y:=r') hy.2;rw[h1,h2]
 simp only[raw,LD,D.a.injEq,List.cons.injEq,D.v.injEq,Value.bool.injEq,D.s.injEq,true_and,and_true]at h;exact⟨h.1,inj h.2.1,inj h.2.2⟩
theorem acg {s:Bool}{a b:List Nat}(ha:bT a)(hb:bT b)(h:dA s a b=true):s=qs (bR s a b)/\a=qn (bR s a b)/\b=qd (bR s a b) :=
 YX (oV ha hb h)
theorem G6 {s:Bool}{a b:List Nat}:q0 s a b=true↔s=false/\a=[]/\b=[]:=by
 unfold q0;cases s<;>simp
theorem NY {S:Nat}:∀ {l:List Mo} {q:Option Mo},(∀ m ∈ l,bT m.a/\bT m.b/\m.a.length<=S/\m.b.length<=S)->1<=S->wU q l=true->∃ es,l=es.map sW/\PV S es/\∀ m,q=some m->∀ p ∈ es,ku m.e p.1=true
 | [],q,_,_,_=>⟨[],rfl,PV.nil S,fun _ _ p hp=>by cases hp⟩
 | m::l,q,hm,hS,h=>by
  have hh:m.fits=true/\(∀ m',q=some m'->iT m'.e m.e<0)/\wU (some m) l=true:=by
   cases q with
   | none =>
    simp only[wU,Bool.and_eq_true]at h;exact⟨h.1,fun m' h'=>by(cases h'),h.2⟩
   | some m' =>
    simp only[wU,Bool.and_eq_true,decide_eq_true_eq]at h;exact⟨h.1.1,fun m'' h'=>by cases h';exact h.1.2,h.2⟩
  obtain⟨h1,h2,h3⟩:=hh;obtain⟨es,rfl,hpv,Lx⟩:=NY (fun x hx=>hm x (List.mem_cons_of_mem _ hx)) hS h3;obtain⟨e,s,a,b⟩:=m;obtain⟨la,lb,za,zb⟩:=hm _ (List.mem_cons_self ..);unfold Mo.fits at h1;simp only[Bool.and_eq_true,decide_eq_true_eq]at h1 la lb za zb;obtain⟨hf,hv,hne⟩:=h1;obtain⟨e1,e2,e3⟩:=acg la lb hv;have hz:=ng la lb S za zb hS hv;generalize bR s a b=x at*;subst e1 e2 e3;have hnz:x≠0:=by
   intro hx;subst hx;exact hne cK
  have hlt:∀ p ∈ es,ku e p.1=true:=fun p hp=>Lx _ rfl p hp
  refine⟨(e,x)::es,rfl,⟨List.pairwise_cons.2 ⟨hlt,hpv.PZ⟩,?_,?_,?_⟩,?_⟩
  ·intro p hp;rcases List.mem_cons.1 hp with rfl|hp
   ·exact hnz
   ·exact hpv.nz p hp
  ·intro p hp;rcases List.mem_cons.1 hp with rfl|hp
   ·exact hf
   ·exact hpv.fits p hp
  ·intro p hp;rcases List.mem_cons.1 hp with rfl|hp
   ·exact hz
   ·exact hpv.bd p hp
  ·intro m' hm' p hp;have h4:ku m'.e e=true:=decide_eq_true (h2 m' hm');rcases List.mem_cons.1 hp with rfl|hp
   ·exact h4
   ·exact mX h4 (hlt p hp)
end Fi.S
namespace Fi.S
open Go Fi
set_option maxHeartbeats 8000000
def vz (i:Bool)(n:Int)(j:Bool)(m:Int):Bool := !i&&(j||decide (n<m))
noncomputable def eu (k:Int):Sv->Sv->Sv
 | .q x,.q y=>if k=3 then(if x<y then .q y else .q x) else .q (x+y)
 | .c i n,.c j m=>if vz j m i n then .c j m else .c i n
 | .s u,.s v=>.s (IB .u64 u v)
 | .p a,.p b=>.p (jw a b)
 | x,_=>x
noncomputable def eB:Sv->Sv->Sv
 | .q x,.q y=>.q (x*y)
 | .c i n,.c j m=>if i||(j||decide (1099511627776<n+m)) then .c true 0 else .c false (n+m)
 | .s u,.s v=>.s (rX .u64 u v)
 | .p a,.p b=>.p (lH a b)
 | x,_=>x
theorem UH (x y:Rat)(hx:qz x<=100000)(hy:qz y<=100000):Ca E1 113 [.d (Sv.q x).w.d,.d (Sv.q y).w.d] (.d (Sv.q (x+y)).w.d,none):=by
 obtain⟨N,t⟩:=(Ca.dW (GJ x y hx hy)).get;refine Ca.bD (n:=N+60) ?_;rw[av rfl (k113:E1.fn _=_) rfl];generalize x+y=z at*;simp only[Sv.w,W.d,W.ds,PD,qD,raw,LD,List.map_nil]at*;generalize qs x=s1,qs y=s2,qs z=s3,LL (qn x)=x1,LL (qd x)=x2,LL (qn y)=y1,LL (qd y)=y2,LL (qn z)=z1,LL (qd z)=z2 at*;simp -implicitDefEqProofs[f113,t]
theorem UI (i j:Bool)(n m:Int):Ca E1 126 [.d (Sv.c i n).w.d,.d (Sv.c j m).w.d] (.d (.v (.bool (vz i n j m))),none):=by
 refine Ca.bD (n:=60) ?_;rw[av rfl (k126:E1.fn _=_) rfl];simp only[Sv.w,W.d,W.ds,PD,LD,LL,List.map_nil,vz]at*;cases i<;>cases j<;>by_cases h:n<m<;>simp -implicitDefEqProofs[f126,h]
theorem UJ (i j:Bool)(n m:Int):Ca E1 125 [.d (Sv.c i n).w.d,.d (Sv.c j m).w.d] (.d (eu 2 (.c i n) (.c j m)).w.d,none):=by
 obtain⟨N,t⟩:=(UI j i m n).get;refine Ca.bD (n:=N+60) ?_;rw[av rfl (k125:E1.fn _=_) rfl];have e:eu 2 (.c i n) (.c j m)=if vz j m i n then .c j m else .c i n:=rfl
 rw[e];clear e;generalize vz j m i n=b at*;cases b
 ·simp only[Sv.w,W.d,W.ds,PD,LD,LL,List.map_nil,Bool.false_eq_true,if_false]at*;simp -implicitDefEqProofs[f125,t]
 ·simp only[Sv.w,W.d,W.ds,PD,LD,LL,List.map_nil,if_true]at*;simp -implicitDefEqProofs[f125,t]
theorem UK (u v:Int):Ca E1 142 [.d (Sv.s u).w.d,.d (Sv.s v).w.d] (.d (Sv.s (IB .u64 u v)).w.d,none):=by
 refine Ca.bD (n:=60) ?_;rw[av rfl (k142:E1.fn _=_) rfl];simp -implicitDefEqProofs[f142,Sv.w,W.d,W.ds,PD,LD,LL]
theorem UL (l:List bz):(Sv.p l).w.d=.a [.v (.bool false),.s 1 [],.s 1 [],.v (.int .i64 0),.v (.bool false),.v (.int .u64 0),aV l,.s 8 []]:=by
 simp only[Sv.w,W.d,W.ds,LD,LL,List.map_nil,GV]
theorem UM {S:Nat}{a b:List bz}(ha:PV S a)(hb:PV S b)(hS:S<=1000)(hm:(a++b).length*(S+1)<=50000):Ca E1 154 [.d (Sv.p a).w.d,.d (Sv.p b).w.d] (.d (Sv.p (jw a b)).w.d,none):=by
 obtain⟨N,t⟩:=(YK ha hb hS hm).get;refine Ca.bD (n:=N+60) ?_;rw[av rfl (k154:E1.fn _=_) rfl];simp only[UL];generalize jw a b=c at*;unfold aV at*;generalize (a.map fun p=>qC p.1 p.2)=x1,(b.map fun p=>qC p.1 p.2)=x2,(c.map fun p=>qC p.1 p.2)=x3 at*;simp -implicitDefEqProofs[f154,t]
theorem UN (x:Rat):0<x.num↔0<x:=by
 have h:=@Rat.num_nonneg (-x);have e:(-x).num=-x.num:=by simp
 rw[e]at h;have h1:0<x.num↔¬ 0<=-x.num:=by omega
 have h2:0<x↔¬ 0<=-x:=by grind
 rw[h1,h2,h]
theorem Mh (x y:Rat)(hx:qz x<=100000)(hy:qz y<=100000):Ca E1 136 [.d (Sv.q x).w.d,.d (Sv.q y).w.d] (.d (.v (.bool (decide (y<x)))),none):=by
 obtain⟨N,t⟩:=(Ca.dW (Ac x y hx hy)).get;refine Ca.bD (n:=N+60) ?_;rw[av rfl (k136:E1.fn _=_) rfl];have hs:decide ((0:Int)<(x-y).num.sign)=decide (y<x):=by
  rw[decide_eq_decide,Int.sign_pos_iff,UN];grind
 rw[<-hs];generalize (x-y).num.sign=z at*;simp only[Sv.w,W.d,W.ds,PD,qD,raw,LD,List.map_nil]at*;generalize qs x=s1,qs y=s2,LL (qn x)=x1,LL (qd x)=x2,LL (qn y)=y1,LL (qd y)=y2 at*;simp -implicitDefEqProofs[f136,t,LL]
theorem Qb (x y:Rat)(hx:qz x<=90000)(hy:qz y<=90000) :
  ∃ N,∀ (B:List ae) (j:Nat) (c0 c1 c2 c3 c4 c5 c7 c8:FV),B[j]?=some (.box [c0,c1,c2,c3,c4,c5,.d (.fn 136),c7,c8])->∀ k,CL E1 (N+k) 137 [.d (Sv.q x).w.d,.d (Sv.q y).w.d,.r (.old j) 0] B=some (.d (eu 3 (.q x) (.q y)).w.d,none):=by
 have hz:=jP;have hxy:eu 3 (.q x) (.q y)=.q ((if x<y then y else x)+0):=by
  have e:eu 3 (.q x) (.q y)=if x<y then .q y else .q x:=rfl
  have e2:∀ z:Rat,z+0=z:=fun z=>Rat.add_zero z
  rw[e,e2];split<;>rfl
 rw[hxy];obtain⟨M,hM,t1,t2⟩:=((Mh y x (by omega) (by omega)).j ((Ca.dW (GJ (if x<y then y else x) 0 (by split<;>omega) (by omega))).any)).at 0;refine⟨M+100,fun B j c0 c1 c2 c3 c4 c5 c7 c8 hB k => ?_⟩;have hjl:j<B.length:=(aW hB)
 have NS:∀ L,(B++L)[j]?=some (.box [c0,c1,c2,c3,c4,c5,.d (.fn 136),c7,c8]):=fun L=>by rw[List.getElem?_append_left hjl];exact hB
 replace t1:=fun m=>t1 (k+m)
 replace t2:=fun m=>t2 (k+m)
 simp only[<-Nat.add_assoc]at t1 t2;rw[show M+100+k=M+k+100 by omega];generalize M+k=m at*;rw[xB]at t2;rw[av rfl (k137:E1.fn _=_) rfl]
 by_cases h:x<y
 ·rw[if_pos h]at t2 ⊢;rw[decide_eq_true h]at t1;generalize y+0=z at*;simp only[Sv.w,W.d,W.ds,PD,qD,raw,LD,List.map_nil]at*;generalize qs x=s1,qs y=s2,qs z=s3,LL (qn x)=x1,LL (qd x)=x2,LL (qn y)=y1,LL (qd y)=y2,LL (qn z)=z1,LL (qd z)=z2 at*;simp -implicitDefEqProofs[f137,t1,t2,NS,LL]
 ·rw[if_neg h]at t2 ⊢;rw[decide_eq_false h]at t1;generalize x+0=z at*;simp only[Sv.w,W.d,W.ds,PD,qD,raw,LD,List.map_nil]at*;generalize qs x=s1,qs y=s2,qs z=s3,LL (qn x)=x1,LL (qd x)=x2,LL (qn y)=y1,LL (qd y)=y2,LL (qn z)=z1,LL (qd z)=z2 at*;simp -implicitDefEqProofs[f137,t1,t2,NS,LL]
section
def wD (s:Bool)(l1 l2:List D)(c:Int)(b:Bool)(u:Int)(p ps:List D):D:=.a [.v (.bool s),.s 1 l1,.s 1 l2,.v (.int .i64 c),.v (.bool b),.v (.int .u64 u),.s 6 p,.s 8 ps]
theorem W.aF (w:W):∃ s l1 l2 c b u p ps,w.d=wD s l1 l2 c b u p ps:=by
 obtain⟨s,a,b,c,i,u,p,ps⟩:=w;exact⟨s,LL a,LL b,c,i,u,p.map Mo.d,W.ds ps,rfl⟩
section parts
variable (H:List ae) (iv iw i:Nat) (v0 v1 v2 v3 v4 v5 v6 w0 w1 w2 w3 w4 w5 w6:FV) (vs ws:List D) (x y z:W)
theorem UO (hv:H[iv]?=some (.box [v0,v1,v2,v3,v4,v5,v6,.d (.s 8 vs)]))(hw:H[iw]?=some (.box [w0,w1,w2,w3,w4,w5,w6,.d (.s 8 ws)]))(hx:vs[i]?=some x.d)(hy:ws[i]?=some y.d)
  (c0 c1 c2 c4 c5 c6 c7 c8 a b:Nat) (g M:Nat) (t:∀ m,CL E1 (M+m) g [.d x.d,.d y.d] []=some (.d z.d,none)) (m:Nat) :
  CL E1 (M+100+m) 45 [.a [.d (.fn c0),.d (.fn c1),.d (.fn c2),.d (.fn g),.d (.fn c4),.f c5 [] [.r (.old a) 0],.d (.fn c6),.d (.fn c7),.f c8 [] [.r (.old b) 0]],.d (.v (.int .i64 i)),.r (.old iv) 0,.r (.old iw) 0] H=some (.d z.d,none):=by
 have hvl:iv<H.length:=(aW hv)
 have hwl:iw<H.length:=(aW hw)
 have gv:∀ L,(H++L)[iv]?=some (.box [v0,v1,v2,v3,v4,v5,v6,.d (.s 8 vs)]):=fun L=>by rw[List.getElem?_append_left hvl];exact hv
 have gw:∀ L,(H++L)[iw]?=some (.box [w0,w1,w2,w3,w4,w5,w6,.d (.s 8 ws)]):=fun L=>by rw[List.getElem?_append_left hwl];exact hw
 have i1:i<vs.length:=(aW hx)
 have i2:i<ws.length:=(aW hy)
 have hi0:(0:Int)<=(i:Int):=by omega
 obtain⟨xs,YY,YZ,xc,xb,xu,xp,xps,ex⟩:=x.aF;obtain⟨ys,yl1,yl2,yc,yb,yu,yp,yps,ey⟩:=y.aF;obtain⟨zs,yP,yQ,zc,zb,zu,zp,EG,ez⟩:=z.aF;rw[ex]at hx t;rw[ey]at hy t;rw[ez]at t ⊢;replace t:=fun k=>t (m+k)
 simp only[<-Nat.add_assoc]at t;rw[show M+100+m=M+m+100 by omega];generalize M+m=n at*;rw[av rfl (k45:E1.fn _=_) rfl];unfold wD at*;have j1:=idx hx;have j2:=idx hy;simp -implicitDefEqProofs[f45,t,gv,gw,i1,i2,hi0,j1,j2,hx,hy]
theorem UQ (hv:H[iv]?=some (.box [v0,v1,v2,v3,v4,v5,v6,.d (.s 8 vs)]))(hw:H[iw]?=some (.box [w0,w1,w2,w3,w4,w5,w6,.d (.s 8 ws)]))(hx:vs[i]?=some x.d)(hy:ws[i]?=some y.d)
  (c0 c1 c2 c4 c5 c6 c7 c8:Nat) (g M:Nat) (t:∀ m,CL E1 (M+m) g [.d x.d,.d y.d] []=some (.d z.d,none)) (m:Nat) :
  CL E1 (M+100+m) 45 [.d (.a [.fn c0,.fn c1,.fn c2,.fn g,.fn c4,.fn c5,.fn c6,.fn c7,.fn c8]),.d (.v (.int .i64 i)),.r (.old iv) 0,.r (.old iw) 0] H=some (.d z.d,none):=by
 have hvl:iv<H.length:=(aW hv)
 have hwl:iw<H.length:=(aW hw)
 have gv:∀ L,(H++L)[iv]?=some (.box [v0,v1,v2,v3,v4,v5,v6,.d (.s 8 vs)]):=fun L=>by rw[List.getElem?_append_left hvl];exact hv
 have gw:∀ L,(H++L)[iw]?=some (.box [w0,w1,w2,w3,w4,w5,w6,.d (.s 8 ws)]):=fun L=>by rw[List.getElem?_append_left hwl];exact hw
 have i1:i<vs.length:=(aW hx)
 have i2:i<ws.length:=(aW hy)
 have hi0:(0:Int)<=(i:Int):=by omega
 obtain⟨xs,YY,YZ,xc,xb,xu,xp,xps,ex⟩:=x.aF;obtain⟨ys,yl1,yl2,yc,yb,yu,yp,yps,ey⟩:=y.aF;obtain⟨zs,yP,yQ,zc,zb,zu,zp,EG,ez⟩:=z.aF;rw[ex]at hx t;rw[ey]at hy t;rw[ez]at t ⊢;replace t:=fun k=>t (m+k)
 simp only[<-Nat.add_assoc]at t;rw[show M+100+m=M+m+100 by omega];generalize M+m=n at*;rw[av rfl (k45:E1.fn _=_) rfl];unfold wD at*;have j1:=idx hx;have j2:=idx hy;simp -implicitDefEqProofs[f45,t,gv,gw,i1,i2,hi0,j1,j2,hx,hy]
theorem ach (hv:H[iv]?=some (.box [v0,v1,v2,v3,v4,v5,v6,.d (.s 8 vs)]))(hw:H[iw]?=some (.box [w0,w1,w2,w3,w4,w5,w6,.d (.s 8 ws)]))(hx:vs[i]?=some x.d)(hy:ws[i]?=some y.d)
  (c0 c1 c2 c4 c5 c6 c7 c8 a b:Nat) (j M:Nat) (o:ae) (hj:H[j]?=some o) (ho:∀ n,ae.aA n o=o) (t:∀ B,B[j]?=some o->∀ m,CL E1 (M+m) 137 [.d x.d,.d y.d,.r (.old j) 0] B=some (.d z.d,none)) (m:Nat) :
  CL E1 (M+100+m) 45 [.a [.d (.fn c0),.d (.fn c1),.d (.fn c2),.f 137 [] [.r (.old j) 0],.d (.fn c4),.f c5 [] [.r (.old a) 0],.d (.fn c6),.d (.fn c7),.f c8 [] [.r (.old b) 0]],.d (.v (.int .i64 i)),.r (.old iv) 0,.r (.old iw) 0] H=some (.d z.d,none):=by
 have hvl:iv<H.length:=(aW hv)
 have hwl:iw<H.length:=(aW hw)
 have hjl:j<H.length:=(aW hj)
 have gv:∀ L,(H++L)[iv]?=some (.box [v0,v1,v2,v3,v4,v5,v6,.d (.s 8 vs)]):=fun L=>by rw[List.getElem?_append_left hvl];exact hv
 have gw:∀ L,(H++L)[iw]?=some (.box [w0,w1,w2,w3,w4,w5,w6,.d (.s 8 ws)]):=fun L=>by rw[List.getElem?_append_left hwl];exact hw
 have i1:i<vs.length:=(aW hx)
 have i2:i<ws.length:=(aW hy)
 have hi0:(0:Int)<=(i:Int):=by omega
 obtain⟨xs,YY,YZ,xc,xb,xu,xp,xps,ex⟩:=x.aF;obtain⟨ys,yl1,yl2,yc,yb,yu,yp,yps,ey⟩:=y.aF;obtain⟨zs,yP,yQ,zc,zb,zu,zp,EG,ez⟩:=z.aF;rw[ex]at hx t;rw[ey]at hy t;rw[ez]at t ⊢;have gj:∀ L,(List.map (ae.aA H.length) H++L)[j]?=some o:=fun L=>by rw[List.getElem?_append_left (by simpa using hjl),List.getElem?_map,hj];exact congrArg some (ho _)
 replace t:=fun L k=>t (List.map (ae.aA H.length) H++L) (gj L) (m+k)
 simp only[<-Nat.add_assoc]at t;rw[show M+100+m=M+m+100 by omega];generalize M+m=n at*;rw[av rfl (k45:E1.fn _=_) rfl];unfold wD at*;have j1:=idx hx;have j2:=idx hy;simp -implicitDefEqProofs[f45,t,FV.aA,FV.aR,gv,gw,i1,i2,hi0,j1,j2,hx,hy]
end parts
end
def UR (k:Int)(o:Nat):FV :=
 if k=1 then su else if k=5 then r_
 else if k=2 then .a [(.d (.fn 122)),(.d (.fn 123)),(.d (.fn 124)),(.d (.fn 125)),(.d (.fn 127)),(.f 195 [] [(.r (.old (o+3)) 0)]),(.d (.fn 126)),(.d (.fn 128)),(.f 131 [] [(.r (.old (o+2)) 0)])]
 else if k=3 then .a [(.d (.fn 133)),(.d (.fn 110)),(.d (.fn 111)),(.f 137 [] [(.r (.old (o+2)) 0)]),(.d (.fn 115)),(.f 195 [] [(.r (.old (o+3)) 0)]),(.d (.fn 136)),(.d (.fn 119)),(.f 138 [] [(.r (.old (o+2)) 0)])]
 else .a [(.d (.fn 139)),(.d (.fn 140)),(.d (.fn 141)),(.d (.fn 142)),(.d (.fn 143)),(.f 195 [] [(.r (.old (o+3)) 0)]),(.d (.fn 118)),(.d (.fn 144)),(.f 147 [] [(.r (.old (o+2)) 0)])]
def EH (o:Nat):ae:=.box [(.d (.fn 133)),(.d (.fn 110)),(.d (.fn 111)),(.f 137 [] [(.r (.old (o+2)) 0)]),(.d (.fn 115)),(.f 195 [] [(.r (.old (o+3)) 0)]),(.d (.fn 136)),(.d (.fn 119)),(.f 138 [] [(.r (.old (o+2)) 0)])]
theorem UT (o n:Nat):ae.aA n (EH o)=EH o:=by simp[EH,ae.aA,FV.aA,FV.aR]
def bQ (px:FV):ae:=.box [.d (.v (.bool false)),.d (.n 1),.d (.n 1),.d (.v (.int .i64 0)),.d (.v (.bool false)),.d (.v (.int .u64 0)),.d (.n 6),px]
def jR (px:FV)(L:List ae)(zs:List D):Prop:=(px=.d (.n 8)/\zs=[])\/∃ j az,px=.ls (.loc j) az 8 0 zs.length/\L[j]?=some (.row az 8 zs)
def Y0:aG:=f43.body.r.r.l.r.bl.lp
def Mi (g iv iw:Nat)(ps:List Int)(i:Nat)(t:FV)(B L:List ae)(dt:Bool:=false):St :=
 {vars:=[.u,.f g [] [.r (.old iv) 0,.r (.old iw) 0],.u,.r (.loc 1) 0,.r (.loc 2) 0,.u,.u,.d (.s 1 (LK .i64 ps)),.d (.v (.int .i64 ps.length)),.d (.v (.int .i64 i)),t],base:=B,loc:=L,aT:=dt}
def Qc (k:Int):Nat:=if k=2 then 124 else if k=3 then 111 else 141
def G7 (g iv iw:Nat)(vb wb:ae)(k:Int)(i:Nat)(z:W):Prop :=
 ∃ N,∀ (H:List ae) (o:Nat),H[iv]?=some vb->H[iw]?=some wb->(k=3->H[o+2]?=some (EH o))->(k≠1->k≠5->H[o+3]?=some (.box [.d (.fn (Qc k))]))->∀ m,CL E1 (N+m) g [UR k o,.d (.v (.int .i64 i)),.r (.old iv) 0,.r (.old iw) 0] H=some (.d z.d,none)
def xK (k:Int):FV × Option (List ae):=if k=1 then(su,none) else if k=2 then(vT,some sw) else if k=3 then(vU,some sG) else if k=4 then(vV,some sH) else(r_,none)
theorem NZ {k:Int}(hk:single k=true):Ca E1 42 [.d (.v (.int .i64 k))] (xK k):=by
 rcases a_ hk with rfl|rfl|rfl|rfl|rfl
 ·exact Ca.dW (Ca.of Cu)
 ·exact Ca.dW (Ca.of Cw)
 ·exact Ca.dW (Ca.of Cy)
 ·exact Ca.dW (Ca.of Cz)
 ·exact Ca.dW (Ca.of Cv)
def Mj (r:Nat->Ref)(k:Int)(o:Nat):List FV:=if k=2 then [(.d (.fn 122)),(.d (.fn 123)),(.d (.fn 124)),(.d (.fn 125)),(.d (.fn 127)),(.f 195 [] [(.r (r (o+3)) 0)]),(.d (.fn 126)),(.d (.fn 128)),(.f 131 [] [(.r (r (o+2)) 0)])] else if k=3 then [(.d (.fn 133)),(.d (.fn 110)),(.d (.fn 111)),(.f 137 [] [(.r (r (o+2)) 0)]),(.d (.fn 115)),(.f 195 [] [(.r (r (o+3)) 0)]),(.d (.fn 136)),(.d (.fn 119)),(.f 138 [] [(.r (r (o+2)) 0)])] else [(.d (.fn 139)),(.d (.fn 140)),(.d (.fn 141)),(.d (.fn 142)),(.d (.fn 143)),(.f 195 [] [(.r (r (o+3)) 0)]),(.d (.fn 118)),(.d (.fn 144)),(.f 147 [] [(.r (r (o+2)) 0)])]
def JG (r:Nat->Ref)(k:Int)(o:Nat):List ae:=[.box (Mj r k o),.box (Mj r k o),.box (Mj r k o),.box [.d (.fn (Qc k))]]
theorem UU (g iv iw:Nat)(ps:List Int)(i:Nat)(k:Int)(B L:List ae)(dt:Bool)(vb wb:ae)(px:FV)(zs:List D)(z:W)(hk:ps[i]?=some k)(hs:single k=true)(hn:ps.length<=3)
  (hv:B[iv]?=some vb) (hw:B[iw]?=some wb) (ov:∀ n,ae.aA n vb=vb) (ow:∀ n,ae.aA n wb=wb) (ahZ:G7 g iv iw vb wb k i z) (h1:L[1]?=some (bQ (.d (.n 8)))) (h2:L[2]?=some (bQ px)) (ho:jR px L zs) (hz:zs.length<=3) :
  ∃ mH L',Ex E1 Y0 (Mi g iv iw ps i .u B L dt) (.norm,Mi g iv iw ps (i+1) .u B L' dt)/\L'[1]?=some (bQ (.d (.n 8)))/\L'[2]?=some (bQ mH)/\jR mH L' (zs++[z.d]):=by
 obtain⟨N,t⟩:=ahZ;have hvl:iv<B.length:=(aW hv)
 have hwl:iw<B.length:=(aW hw)
 have Qd:1<L.length:=(aW h1)
 have FL:2<L.length:=(aW h2)
 have hil:i<ps.length:=(aW hk)
 have n1:(LK .i64 ps).length=ps.length:=by simp[LK]
 have e1:(LK .i64 ps)[i]?=some (.v (.int .i64 k)):=by simp[LK,hk]
 have aQ:ak .i64 ((i:Int)+1)=(i:Int)+1:=wrap_i64 (by omega);have hk1:((i+1:Nat):Int)=(i:Int)+1:=by omega
 have hk0:(0:Int)<=(i:Int):=by omega
 have hkc:(i:Int)<(ps.length:Int):=by omega
 obtain⟨UW,yP,yQ,zc,zb,zu,zp,EG,ez⟩:=z.aF;rw[ez]at t ⊢;unfold wD at*;have hvH:∀ L,(List.map (ae.aA B.length) B++L)[iv]?=some vb:=fun L=>by rw[List.getElem?_append_left (by simpa using hvl),List.getElem?_map,hv];exact congrArg some (ov _)
 have hwH:∀ L,(List.map (ae.aA B.length) B++L)[iw]?=some wb:=fun L=>by rw[List.getElem?_append_left (by simpa using hwl),List.getElem?_map,hw];exact congrArg some (ow _)
 obtain⟨K,t42⟩:=(NZ hs).any;obtain⟨M,hM⟩:∃ M,M=N+K:=⟨_,rfl⟩
 replace t42:=t42 M (by omega);have five:=a_ hs;have g2:∀ X,(L++X)[2]?=some (bQ px):=fun X=>by rw[List.getElem?_append_left FL];exact h2
 have Qe:∀ {j az} (hj:L[j]?=some (.row az 8 zs)),j<L.length/\j≠2/\j≠1/\(∀ X,(L++X)[j]?=some (.row az 8 zs))/\(∀ r,(L.set j r)[2]?=some (bQ px))/\∀ r X,(L.set j r++X)[2]?=some (bQ px):=fun {j az} hj=>by
  have hjl:j<L.length:=(aW hj)
  have hj2:j≠2:=fun h=>by
   subst h;rw[h2]at hj;cases hj
  have s2:∀ r,(L.set j r)[2]?=some (bQ px):=fun r=>by rw[List.getElem?_set_ne hj2];exact h2
  refine⟨hjl,hj2,fun h => ?_,fun X=>by rw[List.getElem?_append_left hjl];exact hj,s2,fun r X=>by rw[List.getElem?_append_left (by simpa using FL)];exact s2 r⟩;subst h;rw[h1]at hj;cases hj
 have m1:(zs.length+1)*128<=1099511627776:=by omega
 have m2:zs.length+1<=1099511627776:=by omega
 by_cases hp:k=1\/k=5
 ·replace t:=fun m=>eF (t (List.map (ae.aA B.length) B++List.map (ae.aA B.length) L) (B.length+L.length) (hvH _) (hwH _) (fun h=>by omega) (fun _ _=>by omega) 0) (show N+0<=M+m by omega)
  rcases ho with ⟨rfl,rfl⟩|⟨j,az,rfl,hj⟩
  ·refine⟨.ls (.loc L.length) 0 8 0 1,(L.set 2 (bQ (.ls (.loc L.length) 0 8 0 1)))++[.row 0 8 [(.a [D.v (.bool UW),.s 1 yP,.s 1 yQ,.v (.int .i64 zc),.v (.bool zb),.v (.int .u64 zu),.s 6 zp,.s 8 EG])]],Ex.of (n:=M+100) ?_,?_,?_,.inr ⟨L.length,0,rfl,by simp⟩⟩
   ·unfold Mi;rw[hk1];clear hvH hwH ov ow hv hw h1 Qe;unfold bQ at*;generalize LK .i64 ps=l1 at*;have i1:=idx e1;have i2:=idx h2;rcases hp with rfl|rfl
    all_goals
     simp[UR,xK,su,EE,r_]at t42 t;simp -implicitDefEqProofs[Y0,f43,aQ,hk0,hkc,hil,n1,i1,t42,t,FV.aA,FV.aR,most,dM,gF,checked,jl,xL,i2,FL,g2]
   ·rw[List.getElem?_append_left (by simpa using Qd),List.getElem?_set_ne (by omega)];exact h1
   ·rw[List.getElem?_append_left (by simpa using FL)];exact List.getElem?_set_self FL
  ·obtain⟨hjl,hj2,hj1,gj,s2,s2X⟩:=Qe hj;refine⟨.ls (.loc j) (az+1) 8 0 (zs.length+1),((L.set j (.row (az+1) 8 (zs++[(.a [D.v (.bool UW),.s 1 yP,.s 1 yQ,.v (.int .i64 zc),.v (.bool zb),.v (.int .u64 zu),.s 6 zp,.s 8 EG])]))).set 2 (bQ (.ls (.loc j) (az+1) 8 0 (zs.length+1)))),Ex.of (n:=M+100) ?_,?_,?_,.inr ⟨j,az+1,by simp,?_⟩⟩
   ·unfold Mi;rw[hk1];clear hvH hwH ov ow hv hw h1 Qe;unfold bQ at*;generalize LK .i64 ps=l1 at*;have i1:=idx e1;have i2:=idx h2;have i3:=idx hj;have i4:∀ r (h:2<(L.set j r).length),(L.set j r)[2]=_:=fun r h=>idx (s2 r) h
    rcases hp with rfl|rfl
    all_goals
     simp[UR,xK,su,EE,r_]at t42 t;simp -implicitDefEqProofs[Y0,f43,aQ,hk0,hkc,hil,n1,i1,t42,t,FV.aA,FV.aR,most,dM,gF,checked,jl,xL,Ref.abs,i2,i3,i4,FL,hjl,m1,m2]
   ·rw[List.getElem?_set_ne (by omega),List.getElem?_set_ne hj1];exact h1
   ·exact List.getElem?_set_self (by simpa using FL)
   ·rw[List.getElem?_set_ne (fun h=>hj2 h.symm)];exact List.getElem?_set_self hjl
 ·replace t:=fun m=>eF (t (List.map (ae.aA B.length) B++(List.map (ae.aA B.length) L++JG .old k (B.length+L.length))) (B.length+L.length) (hvH _) (hwH _) (fun h=>by subst h;rw[List.getElem?_append_right (by simp;omega)];simp;rw[List.getElem?_append_right (by simp;omega)];simp;rw[show B.length+L.length+2-B.length-L.length=2 by omega];rfl) (fun _ _=>by rw[List.getElem?_append_right (by simp;omega)];simp;rw[List.getElem?_append_right (by simp;omega)];simp;rw[show B.length+L.length+3-B.length-L.length=3 by omega];rfl) 0) (show N+0<=M+m by omega)
  have hp':k=2\/k=3\/k=4:=by omega
  rcases ho with ⟨rfl,rfl⟩|⟨j,az,rfl,hj⟩
  ·refine⟨.ls (.loc (L.length+4)) 0 8 0 1,(L.set 2 (bQ (.ls (.loc (L.length+4)) 0 8 0 1)))++JG .loc k L.length++[.row 0 8 [(.a [D.v (.bool UW),.s 1 yP,.s 1 yQ,.v (.int .i64 zc),.v (.bool zb),.v (.int .u64 zu),.s 6 zp,.s 8 EG])]],Ex.of (n:=M+100) ?_,?_,?_,.inr ⟨(L.length+4),0,rfl,by simp[JG]⟩⟩
   ·unfold Mi;rw[hk1];clear hvH hwH ov ow hv hw h1 Qe;unfold bQ at*;generalize LK .i64 ps=l1 at*;have i1:=idx e1;have i2:=idx h2;rcases hp' with rfl|rfl|rfl
    all_goals
     simp[UR,xK,vT,qA,sw,vU,qB,sG,vV,qE,sH,JG,Mj,Qc]at t42 t;simp only[Nat.add_assoc]at t;simp -implicitDefEqProofs[Y0,f43,aQ,hk0,hkc,hil,n1,i1,t42,t,FV.aA,FV.aR,FV.shift,FV.jo,ae.shift,ae.aA,most,dM,gF,checked,jl,xL,i2,FL,JG,Mj,Qc]
   ·rw[List.append_assoc,List.getElem?_append_left (by simpa using Qd),List.getElem?_set_ne (by omega)];exact h1
   ·rw[List.append_assoc,List.getElem?_append_left (by simpa using FL)];exact List.getElem?_set_self FL
  ·obtain⟨hjl,hj2,hj1,gj,s2,s2X⟩:=Qe hj;refine⟨.ls (.loc j) (az+1) 8 0 (zs.length+1),((L.set j (.row (az+1) 8 (zs++[(.a [D.v (.bool UW),.s 1 yP,.s 1 yQ,.v (.int .i64 zc),.v (.bool zb),.v (.int .u64 zu),.s 6 zp,.s 8 EG])]))).set 2 (bQ (.ls (.loc j) (az+1) 8 0 (zs.length+1))))++JG .loc k L.length,Ex.of (n:=M+100) ?_,?_,?_,.inr ⟨j,az+1,by simp,?_⟩⟩
   ·unfold Mi;rw[hk1];clear hvH hwH ov ow hv hw h1 Qe;unfold bQ at*;generalize LK .i64 ps=l1 at*;have i1:=idx e1;have i2:=idx h2;have i3:=idx hj;have i4:∀ r (h:2<(L.set j r).length),(L.set j r)[2]=_:=fun r h=>idx (s2 r) h
    rcases hp' with rfl|rfl|rfl
    all_goals
     simp[UR,xK,vT,qA,sw,vU,qB,sG,vV,qE,sH,JG,Mj,Qc]at t42 t;simp only[Nat.add_assoc]at t;simp -implicitDefEqProofs[Y0,f43,aQ,hk0,hkc,hil,n1,i1,t42,t,FV.aA,FV.aR,FV.shift,FV.jo,ae.shift,ae.aA,most,dM,gF,checked,jl,xL,Ref.abs,i2,i4,FL,hjl,gj,m1,m2,JG,Mj,Qc]
   ·rw[List.getElem?_append_left (by simpa using Qd)];rw[List.getElem?_set_ne (by omega),List.getElem?_set_ne hj1];exact h1
   ·rw[List.getElem?_append_left (by simpa using FL)];exact List.getElem?_set_self (by simpa using FL)
   ·rw[List.getElem?_append_left (by simpa using hjl)];rw[List.getElem?_set_ne (fun h=>hj2 h.symm)];exact List.getElem?_set_self hjl
theorem qI {E:Env}{g:Nat}{F:ai}{args:List FV}{B:List ae}{o:Out}{st1:St}{r:FV × Option (List ae)}(hp:E.ja g=none)(hf:E.fn g=some F)(hl:args.length=F.np)
  (h:Ex E F.body {vars:=args++List.replicate (F.nv-F.np) .u,base:=B,loc:=[],aT:=false} (o,st1)) (ho:∀ id,o≠.exit id) (hr:finish F st1=some r):∃ N,∀ m,CL E (N+m) g args B=some r:=by
 obtain⟨n0,h⟩:=h;refine⟨n0,fun m => ?_⟩;rw[jN,G8 hp hf hl,h (n0+m) (by omega)];cases o with
 | exit id=>exact absurd rfl (ho id)
 | norm=>exact hr
 | ret=>exact hr
def fI (zs:List W):W:=.mk false [] [] 0 false 0 [] zs
theorem Y1 (g iv iw:Nat)(ps:List Int)(B:List ae)(vb wb:ae)(zs:List W)(hs:∀ k ∈ ps,single k=true)(hn:ps.length<=3)(hz:zs.length=ps.length)
  (hv:B[iv]?=some vb) (hw:B[iw]?=some wb) (ov:∀ n,ae.aA n vb=vb) (ow:∀ n,ae.aA n wb=wb) (hst:∀ i k z,ps[i]?=some k->zs[i]?=some z->G7 g iv iw vb wb k i z)
  (L:List ae) (h1:L[1]?=some (bQ (.d (.n 8)))) (h2:L[2]?=some (bQ (.d (.n 8)))) :
  ∃ mH L',Ex E1 (.loop Y0) (Mi g iv iw ps 0 .u B L) (.exit 0,Mi g iv iw ps ps.length (.d (.v (.bool false))) B L')/\L'[1]?=some (bQ (.d (.n 8)))/\L'[2]?=some (bQ mH)/\jR mH L' (W.ds zs):=by
 obtain⟨r,hx,mH,L',rfl,h5,h3,h4⟩:=Ex.inv (E:=E1) (b:=Y0) (α:=Nat × FV × List ae) (S:=fun a=>Mi g iv iw ps a.1 .u B a.2.2) (fun a=>ps.length-a.1)
  (fun a=>a.1<=ps.length/\a.2.2[1]?=some (bQ (.d (.n 8)))/\a.2.2[2]?=some (bQ a.2.1)/\jR a.2.1 a.2.2 (W.ds (zs.take a.1)))
  (fun r=>∃ mH L',r=(.exit 0,Mi g iv iw ps ps.length (.d (.v (.bool false))) B L')/\L'[1]?=some (bQ (.d (.n 8)))/\L'[2]?=some (bQ mH)/\jR mH L' (W.ds zs)) (by
   rintro⟨i,px,L⟩ ⟨q1,q0,q2,q3⟩;simp only at q1 q0 q2 q3
   by_cases hi:i<ps.length
   ·have hk:ps[i]?=some ps[i]:=List.getElem?_eq_getElem hi;have hzi:zs[i]?=some (zs[i]'(by omega)):=List.getElem?_eq_getElem (by omega);have hlen:(W.ds (zs.take i)).length<=3:=by simp[W.eH];omega
    obtain⟨mH,L',g1,g0,g2,g3⟩:=UU g iv iw ps i ps[i] B L false vb wb px _ _ hk (hs _ (List.getElem_mem hi)) hn hv hw ov ow (hst i _ _ hk hzi) q0 q2 q3 hlen;refine .inl ⟨(i+1,mH,L'),g1,by show ps.length-(i+1)<ps.length-i;omega,by show i+1<=_;omega,g0,g2,?_⟩;show jR mH L' (W.ds (zs.take (i+1)));rw[List.take_add_one,hzi];have e:W.ds (zs.take i++[zs[i]'(by omega)])=W.ds (zs.take i)++[(zs[i]'(by omega)).d]:=by simp only[W.eH,List.map_append,List.map_cons,List.map_nil]
    show jR mH L' (W.ds (zs.take i++[zs[i]'(by omega)]));rw[e];exact g3
   ·obtain rfl:i=ps.length:=by omega
    rw[<-hz,List.take_length]at q3;refine .inr ⟨_,Ex.of (n:=60) ?_,?_,px,L,rfl,q0,q2,q3⟩
    ·unfold Mi;generalize LK .i64 ps=l1,ps.length=n at*;simp -implicitDefEqProofs[Y0,f43]
    ·simp) (0,.d (.n 8),L) ⟨Nat.zero_le _,h1,h2,.inl ⟨rfl,rfl⟩⟩
 exact⟨mH,L',hx,h5,h3,h4⟩
theorem UX (g iv iw:Nat)(kk:Int)(ps:List Int)(B:List ae)(vb wb:ae)(zs:List W)(hs:∀ k ∈ ps,single k=true)(hn:ps.length<=3)(hz:zs.length=ps.length)
  (hv:B[iv]?=some vb) (hw:B[iw]?=some wb) (ov:∀ n,ae.aA n vb=vb) (ow:∀ n,ae.aA n wb=wb) (hst:∀ i k z,ps[i]?=some k->zs[i]?=some z->G7 g iv iw vb wb k i z) :
  ∃ N,∀ m,CL E1 (N+m) 43 [.d (aP kk ps),.f g [] [.r (.old iv) 0,.r (.old iw) 0]] B=some (.d (fI zs).d,none):=by
 have n1:(LK .i64 ps).length=ps.length:=by simp[LK]
 have hA:Ex E1 f43.body.l {vars:=[.d (aP kk ps),.f g [] [.r (.old iv) 0,.r (.old iw) 0],.u,.u,.u,.u,.u,.u,.u,.u,.u],base:=B,loc:=[],aT:=false}
   (.norm,{vars:=[.u,.f g [] [.r (.old iv) 0,.r (.old iw) 0],.r (.loc 0) 0,.r (.loc 1) 0,.u,.u,.u,.u,.u,.u,.u],base:=B,loc:=[.box [.d (.v (.int .i64 kk)),.d (.s 1 (LK .i64 ps))],bQ (.d (.n 8))],aT:=false}):=by
  refine Ex.of (n:=60) ?_;unfold aP bQ;generalize LK .i64 ps=l1 at*;simp -implicitDefEqProofs[f43]
 have hB:Ex E1 f43.body.r.l {vars:=[.u,.f g [] [.r (.old iv) 0,.r (.old iw) 0],.r (.loc 0) 0,.r (.loc 1) 0,.u,.u,.u,.u,.u,.u,.u],base:=B,loc:=[.box [.d (.v (.int .i64 kk)),.d (.s 1 (LK .i64 ps))],bQ (.d (.n 8))],aT:=false}
   (.norm,{vars:=[.u,.f g [] [.r (.old iv) 0,.r (.old iw) 0],.r (.loc 0) 0,.r (.loc 1) 0,.r (.loc 2) 0,.u,.u,.u,.u,.u,.u],base:=B,loc:=[.box [.d (.v (.int .i64 kk)),.d (.s 1 (LK .i64 ps))],bQ (.d (.n 8)),bQ (.d (.n 8))],aT:=false}):=by
  refine Ex.of (n:=60) ?_;unfold bQ;generalize LK .i64 ps=l1 at*;simp -implicitDefEqProofs[f43]
 have hC:Ex E1 f43.body.r.r.l.l {vars:=[.u,.f g [] [.r (.old iv) 0,.r (.old iw) 0],.r (.loc 0) 0,.r (.loc 1) 0,.r (.loc 2) 0,.u,.u,.u,.u,.u,.u],base:=B,loc:=[.box [.d (.v (.int .i64 kk)),.d (.s 1 (LK .i64 ps))],bQ (.d (.n 8)),bQ (.d (.n 8))],aT:=false}
   (.norm,Mi g iv iw ps 0 .u B [.box [.d (.v (.int .i64 kk)),.d (.s 1 (LK .i64 ps))],bQ (.d (.n 8)),bQ (.d (.n 8))]):=by
  refine Ex.of (n:=60) ?_;unfold Mi bQ;generalize LK .i64 ps=l1 at*;simp -implicitDefEqProofs[f43,n1]
 obtain⟨px,L,hl,h1,h2,ho⟩:=Y1 g iv iw ps B vb wb zs hs hn hz hv hw ov ow hst [.box [.d (.v (.int .i64 kk)),.d (.s 1 (LK .i64 ps))],bQ (.d (.n 8)),bQ (.d (.n 8))] rfl rfl;have hds:(fI zs).d=.a [.v (.bool false),.s 1 [],.s 1 [],.v (.int .i64 0),.v (.bool false),.v (.int .u64 0),.s 6 [],.s 8 (W.ds zs)]:=rfl;have Qd:1<L.length:=(aW h1)
 have hD:Ex E1 f43.body.r.r.r (Mi g iv iw ps ps.length (.d (.v (.bool false))) B L)
   (.ret,{vars:=[.u,.u,.u,.r (.loc 1) 0,.u,.u,.u,.u,.u,.u,.u],base:=B,loc:=L.set 1 (bQ px),aT:=false}):=by
  refine Ex.of (n:=60) ?_;unfold Mi bQ at*;generalize LK .i64 ps=l1 at*;have i1:=idx h1;have i2:=idx h2;rcases ho with ⟨rfl,_⟩|⟨j,az,rfl,_⟩
  ·simp -implicitDefEqProofs[f43,h1,h2,i1,i2,Qd]
  ·simp -implicitDefEqProofs[f43,h1,h2,i1,i2,Qd]
 refine qI (o:=.ret) (st1:={vars:=[.u,.u,.u,.r (.loc 1) 0,.u,.u,.u,.u,.u,.u,.u],base:=B,loc:=L.set 1 (bQ px),aT:=false}) rfl (k43:E1.fn _=_) rfl ?_ (by intro id h;cases h) ?_
 ·show Ex E1 (.seq f43.body.l (.seq f43.body.r.l (.seq (.seq f43.body.r.r.l.l (.block 0 (.loop Y0))) f43.body.r.r.r))) _ _;exact hA.seq (hB.seq ((hC.seq hl.block).seq hD))
 ·rw[hds];unfold bQ at*;have s1:∀ o,(L.set 1 o)[1]?=some o:=fun o=>List.getElem?_set_self Qd
  rcases ho with ⟨rfl,e⟩|⟨j,az,rfl,hj⟩
  ·rw[e];simp -implicitDefEqProofs[f43,s1]
  ·have hj1:j≠1:=fun h=>by
    subst h;rw[h1]at hj;cases hj
   have sj:∀ o,(L.set 1 o)[j]?=some (.row az 8 (W.ds zs)):=fun o=>by rw[List.getElem?_set_ne (fun h=>hj1 h.symm)];exact hj
   have ev:ae.view az 8 0 (W.ds zs).length (.row az 8 (W.ds zs))=some (W.ds zs):=by simp[ae.view]
   generalize W.ds zs=es at*;simp -implicitDefEqProofs[f43,s1,sj,ev]
end Fi.S
namespace Fi.S
open Go Fi
set_option maxHeartbeats 8000000
theorem N_ {k:Int}{ps:List Int}(h:aH k ps=true)(n:Nat):CL E1 (n+500) 31 [.d (aP k ps)] []=some (.d (.v (.bool true)),none):=by
 have:=(Ca.dW (Ca.bD (fZ 0 k ps)))
 have t:=fZ n k ps;rw[h]at t;rw[jN]at t ⊢;exact sS vY (xA vY _) t
theorem sv1 {k:Int}(hk:single k=true):aH k []=true:=by
 rcases a_ hk with rfl|rfl|rfl|rfl|rfl<;>rfl
section
section parts
variable (H:List ae) (iv iw i:Nat) (v0 v1 v2 v3 v4 v5 v6 w0 w1 w2 w3 w4 w5 w6:FV) (vs ws:List D) (x y z:W)
end parts
end
end Fi.S
namespace Fi.S
open Go Fi
set_option maxHeartbeats 8000000
section
def Oa (k:Int):Nat:=if k=1 then 113 else if k=2 then 125 else if k=4 then 142 else 154
def Ob (k:Int)(x y z:W):Prop :=
 ∃ N,(k=3->∀ (B:List ae) (j o:Nat),B[j]?=some (EH o)->∀ m,CL E1 (N+m) 137 [.d x.d,.d y.d,.r (.old j) 0] B=some (.d z.d,none)) /\
  (k≠3->∀ m,CL E1 (N+m) (Oa k) [.d x.d,.d y.d] []=some (.d z.d,none))
section steps
variable {iv iw i:Nat} {v0 v1 v2 v3 v4 v5 v6 w0 w1 w2 w3 w4 w5 w6:FV} {vs ws:List D} {x y z:W} {k:Int}
theorem Qf (hk:single k=true)(h:Ob k x y z)(hx:vs[i]?=some x.d)(hy:ws[i]?=some y.d):G7 45 iv iw (.box [v0,v1,v2,v3,v4,v5,v6,.d (.s 8 vs)]) (.box [w0,w1,w2,w3,w4,w5,w6,.d (.s 8 ws)]) k i z:=by
 obtain⟨N,t3,t⟩:=h;refine⟨N+100,fun H o hv hw h3 _ m => ?_⟩;rcases a_ hk with rfl|rfl|rfl|rfl|rfl
 ·exact UQ H iv iw i v0 v1 v2 v3 v4 v5 v6 w0 w1 w2 w3 w4 w5 w6 vs ws x y z hv hw hx hy 108 110 111 115 117 118 119 121 113 N (t (by decide)) m
 ·exact UO H iv iw i v0 v1 v2 v3 v4 v5 v6 w0 w1 w2 w3 w4 w5 w6 vs ws x y z hv hw hx hy 122 123 124 127 195 126 128 131 (o+3) (o+2) 125 N (t (by decide)) m
 ·exact ach H iv iw i v0 v1 v2 v3 v4 v5 v6 w0 w1 w2 w3 w4 w5 w6 vs ws x y z hv hw hx hy 133 110 111 115 195 136 119 138 (o+3) (o+2) (o+2) N (EH o) (h3 rfl) (UT o) (fun B hB m=>t3 rfl B (o+2) o hB m) m
 ·exact UO H iv iw i v0 v1 v2 v3 v4 v5 v6 w0 w1 w2 w3 w4 w5 w6 vs ws x y z hv hw hx hy 139 140 141 143 195 118 144 147 (o+3) (o+2) 142 N (t (by decide)) m
 ·exact UQ H iv iw i v0 v1 v2 v3 v4 v5 v6 w0 w1 w2 w3 w4 w5 w6 vs ws x y z hv hw hx hy 149 151 152 156 158 118 160 163 154 N (t (by decide)) m
end steps
theorem UY {k:Int}(hk:single k=true)(v w x y z:W)(hv:Ca E1 41 [.d (aP k []),.d v.d] (.d x.d,none))(hw:Ca E1 41 [.d (aP k []),.d w.d] (.d y.d,none))(h:Ob k x y z):Ca E1 14 [.d (aP k []),.d v.d,.d w.d] (.d z.d,none):=by
 obtain⟨N3,t3,t⟩:=h;obtain⟨N1,t1⟩:=hv.any;obtain⟨N2,t2⟩:=hw.any;obtain⟨N4,t42⟩:=(NZ hk).any;obtain⟨K,hK⟩:∃ K,K=N1+N2+N4+N3+500:=⟨_,rfl⟩
 replace t1:=t1 K (by omega);replace t2:=t2 K (by omega);replace t42:=t42 K (by omega);replace t:=fun h m=>eF (t h 0) (show N3+0<=K+m by omega)
 replace t3:=fun h B j o hB m=>eF (t3 h B j o hB 0) (show N3+0<=K+m by omega)
 have t31:=fun m=>eF (N_ (sv1 hk) 0) (show 0+500<=K+m by omega)
 obtain⟨vs,Y2,Y3,vc,vb,vu,vp,Y4,ev⟩:=v.aF;obtain⟨ws,wl1,wl2,wc,wb,wu,wp,wps,ew⟩:=w.aF;obtain⟨xs,YY,YZ,xc,xb,xu,xp,xps,ex⟩:=x.aF;obtain⟨ys,yl1,yl2,yc,yb,yu,yp,yps,ey⟩:=y.aF;obtain⟨zs,yP,yQ,zc,zb,zu,zp,EG,ez⟩:=z.aF;simp only[ev,ew,ex,ey,ez]at t1 t2 t t3 ⊢;clear ev ew ex ey ez hK hv hw;refine Ca.bD (n:=K+100) ?_;rw[av rfl (k14:E1.fn _=_) rfl];unfold wD aP at*;simp only[show LK .i64 []=[] from rfl]at*;rcases a_ hk with rfl|rfl|rfl|rfl|rfl
 ·replace t:=t (by decide);simp[Oa,xK,su,EE]at t42 t;simp -implicitDefEqProofs[f14,t31,t1,t2,t42,t]
 ·replace t:=t (by decide);simp[Oa,xK,vT,qA,sw]at t42 t;simp -implicitDefEqProofs[f14,t31,t1,t2,t42,t,FV.shift,FV.jo,ae.shift]
 ·replace t3:=t3 rfl [.box [.d (.v (.int .i64 3)),.d (.s 1 [])],.box [.d (.v (.bool xs)),.d (.s 1 YY),.d (.s 1 YZ),.d (.v (.int .i64 xc)),.d (.v (.bool xb)),.d (.v (.int .u64 xu)),.d (.s 6 xp),.d (.s 8 xps)],.box [.d (.v (.bool ys)),.d (.s 1 yl1),.d (.s 1 yl2),.d (.v (.int .i64 yc)),.d (.v (.bool yb)),.d (.v (.int .u64 yu)),.d (.s 6 yp),.d (.s 8 yps)],bQ (.d (.n 8)),EH 4,EH 4,EH 4,.box [.d (.fn 111)]] 6 4 rfl;unfold EH bQ at t3;simp[xK,vU,qB,sG]at t42;simp -implicitDefEqProofs[f14,t31,t1,t2,t42,t3,FV.aA,FV.aR,FV.shift,FV.jo,ae.shift,ae.aA]
 all_goals
  replace t:=t (by decide);simp[Oa,xK,vV,qE,sH,r_]at t42 t;simp -implicitDefEqProofs[f14,t31,t1,t2,t42,t,FV.shift,FV.jo,ae.shift]
def JH (xs:List W):ae:=.box [.d (.v (.bool false)),.d (.s 1 []),.d (.s 1 []),.d (.v (.int .i64 0)),.d (.v (.bool false)),.d (.v (.int .u64 0)),.d (.s 6 []),.d (.s 8 (W.ds xs))]
theorem JI (xs:List W)(n:Nat):ae.aA n (JH xs)=JH xs:=by simp[JH,ae.aA,FV.aR,FV.aA]
theorem rg6 {ps:List Int}(h:aH 6 ps=true):ps.length<=3/\2<=ps.length/\∀ k ∈ ps,single k=true:=by
 unfold aH at h;rw[if_neg (by simp)]at h;simp only[Bool.and_eq_true,decide_eq_true_eq,List.all_eq_true]at h;exact⟨h.1.2,h.1.1,h.2⟩
theorem UZ {ps:List Int}(hv:aH 6 ps=true)(v w:W)(xs ys zs:List W)(lx:xs.length=ps.length)(ly:ys.length=ps.length)(lz:zs.length=ps.length)
  (h1:Ca E1 41 [.d (aP 6 ps),.d v.d] (.d (fI xs).d,none)) (h2:Ca E1 41 [.d (aP 6 ps),.d w.d] (.d (fI ys).d,none))
  (h:∀ (i:Nat) (k:Int) (x y z:W),ps[i]?=some k->xs[i]?=some x->ys[i]?=some y->zs[i]?=some z->Ob k x y z):Ca E1 14 [.d (aP 6 ps),.d v.d,.d w.d] (.d (fI zs).d,none):=by
 obtain⟨a1,a2,a3⟩:=rg6 hv;obtain⟨N3,t43⟩:=UX 45 1 2 6 ps [.box [.d (.v (.int .i64 6)),.d (.s 1 (LK .i64 ps))],JH xs,JH ys,bQ (.d (.n 8))] (JH xs) (JH ys) zs a3 a1 lz rfl rfl (JI xs) (JI ys) (fun i k z hk hz=>by
  have hi:i<ps.length:=(aW hk)
  have hx:xs[i]?=some (xs[i]'(by omega)):=List.getElem?_eq_getElem (show i<xs.length by omega);have hy:ys[i]?=some (ys[i]'(by omega)):=List.getElem?_eq_getElem (show i<ys.length by omega);exact Qf (a3 k (List.mem_of_getElem? hk)) (h i k _ _ z hk hx hy hz) (by rw[W.eH,List.getElem?_map,hx];rfl) (by rw[W.eH,List.getElem?_map,hy];rfl))
 obtain⟨N1,t1⟩:=h1.any;obtain⟨N2,t2⟩:=h2.any;obtain⟨N,hN⟩:∃ N,N=N1+N2+N3+500:=⟨_,rfl⟩
 replace t1:=t1 N (by omega);replace t2:=t2 N (by omega);replace t43:=fun m=>eF (t43 0) (show N3+0<=N+m by omega)
 have t31:=fun m=>eF (N_ hv 0) (show 0+500<=N+m by omega)
 obtain⟨vs,Y2,Y3,vc,vb,vu,vp,Y4,ev⟩:=v.aF;obtain⟨ws,wl1,wl2,wc,wb,wu,wp,wps,ew⟩:=w.aF;have ex:∀ zs:List W,(fI zs).d=.a [.v (.bool false),.s 1 [],.s 1 [],.v (.int .i64 0),.v (.bool false),.v (.int .u64 0),.s 6 [],.s 8 (W.ds zs)]:=fun _=>rfl
 rw[ev,ex]at t1;rw[ew,ex]at t2;rw[ex]at t43;rw[ev,ew,ex];unfold wD aP JH bQ at*;clear ev ew ex hN h h1 h2 a1 a2 a3 lx ly lz hv;refine Ca.bD (n:=N+100) ?_;rw[av rfl (k14:E1.fn _=_) rfl];generalize W.ds xs=x1,W.ds ys=x2,W.ds zs=x3,LK .i64 ps=l1 at*;simp -implicitDefEqProofs[f14,t31,t1,t2,t43,FV.aA,FV.aR,ae.aA]
end
end Fi.S
namespace Fi.S
open Go Fi
set_option maxHeartbeats 8000000
def eP (k:Int):Sv:=if k=2 then .c true 0 else if k=4 then .s 0 else if k=5 then .p [] else .q 0
theorem U0 {k:Int}(hk:single k=true)(S M:Nat)(hS:1<=S):(eP k).of k S M:=by
 rcases a_ hk with rfl|rfl|rfl|rfl|rfl
 ·exact⟨.inl rfl,Nat.le_trans jP hS⟩
 ·exact⟨rfl,by decide,by decide,fun _=>rfl⟩
 ·exact⟨.inr ⟨rfl,by decide,by decide⟩,Nat.le_trans jP hS⟩
 ·exact⟨rfl,by decide,by decide⟩
 ·exact⟨rfl,PV.nil S,Nat.zero_le _⟩
theorem JJ {k:Int}(hk:single k=true){S M:Nat}(hS:S<=1000)(hM:(M+M)*(S+1)<=50000){x y:Sv}(hx:x.of k S M)(hy:y.of k S M):Ob k x.w y.w (eu k x y).w:=by
 rcases a_ hk with rfl|rfl|rfl|rfl|rfl
 ·cases x with
  | q x=>cases y with
   | q y =>
    obtain⟨N,t⟩:=(UH x y (by have:=hx.2;omega) (by have:=hy.2;omega)).get;exact⟨N,fun h=>absurd h (by decide),fun _=>t⟩
   | c j m=>exact absurd hy.1 (by decide)
   | s v=>exact absurd hy.1 (by decide)
   | p b=>exact absurd hy.1 (by decide)
  | c i n=>exact absurd hx.1 (by decide)
  | s u=>exact absurd hx.1 (by decide)
  | p a=>exact absurd hx.1 (by decide)
 ·cases x with
  | c i n=>cases y with
   | c j m =>
    obtain⟨N,t⟩:=(UJ i j n m).get;exact⟨N,fun h=>absurd h (by decide),fun _=>t⟩
   | q y=>rcases hy.1 with h | h;exact absurd h (by decide);exact absurd h.1 (by decide)
   | s v=>exact absurd hy.1 (by decide)
   | p b=>exact absurd hy.1 (by decide)
  | q x=>rcases hx.1 with h | h;exact absurd h (by decide);exact absurd h.1 (by decide)
  | s u=>exact absurd hx.1 (by decide)
  | p a=>exact absurd hx.1 (by decide)
 ·cases x with
  | q x=>cases y with
   | q y =>
    obtain⟨N,t⟩:=Qb x y (by have:=hx.2;omega) (by have:=hy.2;omega);exact⟨N,fun _ B j o hB m=>t B j _ _ _ _ _ _ _ _ hB m,fun h=>absurd rfl h⟩
   | c j m=>exact absurd hy.1 (by decide)
   | s v=>exact absurd hy.1 (by decide)
   | p b=>exact absurd hy.1 (by decide)
  | c i n=>exact absurd hx.1 (by decide)
  | s u=>exact absurd hx.1 (by decide)
  | p a=>exact absurd hx.1 (by decide)
 ·cases x with
  | s u=>cases y with
   | s v =>
    obtain⟨N,t⟩:=(UK u v).get;exact⟨N,fun h=>absurd h (by decide),fun _=>t⟩
   | q y=>rcases hy.1 with h | h;exact absurd h (by decide);exact absurd h.1 (by decide)
   | c j m=>exact absurd hy.1 (by decide)
   | p b=>exact absurd hy.1 (by decide)
  | q x=>rcases hx.1 with h | h;exact absurd h (by decide);exact absurd h.1 (by decide)
  | c i n=>exact absurd hx.1 (by decide)
  | p a=>exact absurd hx.1 (by decide)
 ·cases x with
  | p a=>cases y with
   | p b =>
    have h1:(a++b).length*(S+1)<=50000:=by
     have:=hx.2.2;have:=hy.2.2;refine Nat.le_trans (Nat.mul_le_mul_right _ ?_) hM;rw[List.length_append];omega
    obtain⟨N,t⟩:=(UM hx.2.1 hy.2.1 hS h1).get;exact⟨N,fun h=>absurd h (by decide),fun _=>t⟩
   | q y=>rcases hy.1 with h | h;exact absurd h (by decide);exact absurd h.1 (by decide)
   | c j m=>exact absurd hy.1 (by decide)
   | s v=>exact absurd hy.1 (by decide)
  | q x=>rcases hx.1 with h | h;exact absurd h (by decide);exact absurd h.1 (by decide)
  | c i n=>exact absurd hx.1 (by decide)
  | s u=>exact absurd hx.1 (by decide)
inductive W.Sm (S:Nat):W->Prop
 | mk {s:Bool} {a b:List Nat} {c:Int} {i:Bool} {u:Int} {p:List Mo} {ps:List W} (ha:bT a) (hb:bT b) (la:a.length<=S) (lb:b.length<=S) (hp:∀ m ∈ p,bT m.a/\bT m.b/\m.a.length<=S/\m.b.length<=S) (hu:AY u)
   (h:∀ w ∈ ps,W.Sm S w):W.Sm S (.mk s a b c i u p ps)
def W.U1:W->List Mo
 | .mk _ _ _ _ _ _ p _=>p
theorem uH {a b:Int}:(a==b)=true↔a=b:=by simp
theorem U2 {k:Int}(hk:single k=true){S M:Nat}(hS:1<=S){w:W}(hw:w.Sm S)(hM:w.U1.length<=M)(h:d9 k w=true):∃ x:Sv,w=x.w/\x.of k S M:=by
 obtain⟨s,a,b,c,i,u,p,ps⟩:=w;cases hw with
 | mk ha hb la lb hp hu hps =>
  rcases a_ hk with rfl|rfl|rfl|rfl|rfl
  ·simp only[d9,if_true,Bool.and_eq_true,Bool.not_eq_true',uH,List.isEmpty_iff]at h;obtain⟨h1,⟨⟨⟨rfl,rfl⟩,rfl⟩,rfl⟩,rfl⟩:=h;obtain⟨e1,e2,e3⟩:=acg ha hb h1;have hz:=ng ha hb S la lb hS h1;generalize bR s a b=x at*;subst e1 e2 e3;exact⟨.q x,rfl,.inl rfl,hz⟩
  ·simp only[d9,show ¬ (2:Int)=1 by decide,if_false,if_true,Bool.and_eq_true,Bool.or_eq_true,Bool.not_eq_true',uH,List.isEmpty_iff,decide_eq_true_eq,G6]at h;obtain⟨⟨⟨h1,h2⟩,h3⟩,⟨⟨⟨rfl,rfl,rfl⟩,rfl⟩,rfl⟩,rfl⟩:=h;exact⟨.c i c,rfl,rfl,h1,h2,fun hi=>by rcases h3 with h3|h3;rw[hi]at h3;cases h3;exact h3⟩
  ·simp only[d9,show ¬ (3:Int)=1 by decide,show ¬ (3:Int)=2 by decide,if_false,if_true,Bool.and_eq_true,Bool.not_eq_true',uH,List.isEmpty_iff,decide_eq_true_eq,decide_eq_false_iff_not]at h;obtain⟨⟨⟨h1,⟨⟨⟨rfl,rfl⟩,rfl⟩,rfl⟩,rfl⟩,h2⟩,h3⟩:=h;obtain⟨e1,e2,e3⟩:=acg ha hb h1;have hz:=ng ha hb S la lb hS h1;generalize bR s a b=x at*;subst e1 e2 e3;refine⟨.q x,rfl,.inr ⟨rfl,?_,by grind⟩,hz⟩;rw[Int.sign_nonneg_iff]at h2;exact Rat.num_nonneg.1 h2
  ·simp only[d9,show ¬ (4:Int)=1 by decide,show ¬ (4:Int)=2 by decide,show ¬ (4:Int)=3 by decide,if_false,if_true,Bool.and_eq_true,Bool.not_eq_true',uH,List.isEmpty_iff,G6]at h;obtain⟨⟨⟨⟨⟨rfl,rfl,rfl⟩,rfl⟩,rfl⟩,rfl⟩,rfl⟩:=h;exact⟨.s u,rfl,rfl,hu⟩
  ·simp only[d9,show ¬ (5:Int)=1 by decide,show ¬ (5:Int)=2 by decide,show ¬ (5:Int)=3 by decide,show ¬ (5:Int)=4 by decide,if_false,Bool.and_eq_true,Bool.not_eq_true',uH,List.isEmpty_iff,G6]at h;obtain⟨h1,⟨⟨⟨⟨rfl,rfl,rfl⟩,rfl⟩,rfl⟩,rfl⟩,rfl⟩:=h;obtain⟨es,rfl,hpv,_⟩:=NY hp hS h1;exact⟨.p es,rfl,rfl,hpv,by simpa[W.U1] using hM⟩
theorem G9:q0 false [] []=true:=rfl
theorem U3 {k:Int}{S M:Nat}{x:Sv}(h:x.of k S M):d9 k x.w=true:=by
 cases x with
 | q x =>
  obtain⟨h1,h2⟩:=h;have hv:=uz x;rcases h1 with rfl|⟨rfl,h0,h1⟩
  ·simp[d9,Sv.w,hv]
  ·have e:bR (qs x) (qn x) (qd x)=x:=Tn x;have h3:(0:Int)<=x.num.sign:=Int.sign_nonneg_iff.2 (Rat.num_nonneg.2 h0);have h4:¬ (1:Rat)<x:=by grind
   simp[d9,Sv.w,hv,e,h3,h4]
 | c i n =>
  obtain⟨rfl,h1,h2,h3⟩:=h;cases i with
  | false=>simp[d9,Sv.w,h1,h2,G9]
  | true =>
   have:=h3 rfl;subst this;simp[d9,Sv.w,G9]
 | s u =>
  obtain⟨rfl,_⟩:=h;simp[d9,Sv.w,G9]
 | p l =>
  obtain⟨rfl,h1,_⟩:=h;have:=Bu h1 (q:=none) (fun m hm=>by cases hm);simp[d9,Sv.w,G9,this]
theorem U4 {k:Int}{S M:Nat}{x:Sv}(h:x.of k S M)(hS:S<=1000):x.w.OK:=by
 have hl:bT []:=fun _ h=>(by cases h)
 have hp0:Po []:=⟨fun _ h=>(by cases h),by simp⟩
 have hw0:∀ w ∈ ([]:List W),w.OK:=fun _ h=>(by cases h)
 cases x with
 | q x =>
  have h1:(qn x).length<=qz x:=Nat.le_max_left _ _;have h2:(qd x).length<=qz x:=by
   unfold qd;split
   ·simp
   ·exact Nat.le_max_right _ _
  have:=h.2;exact .mk (GD x) (GG x) (by omega) (by omega) hp0 (by simp) hw0
 | c i n=>exact .mk hl hl (by simp) (by simp) hp0 (by simp) hw0
 | s u=>exact .mk hl hl (by simp) (by simp) hp0 (by simp) hw0
 | p l=>exact .mk hl hl (by simp) (by simp) (Uu h.2.1 hS) (by simp) hw0
theorem Y5 (u v:Int):AY (IB .u64 u v):=by
 have h:=Go.wf_wrap .u64 ((BitVec.ofInt 64 u ||| BitVec.ofInt 64 v).toNat:Int);simp only[Lit.wf,Bool.and_eq_true,decide_eq_true_eq]at h;have e1:IntKind.min .u64=0:=by rfl
 have e2:IntKind.max .u64=18446744073709551615:=by rfl
 rw[e1,e2]at h;have e3:IB .u64 u v=IntKind.wrap .u64 ((BitVec.ofInt 64 u ||| BitVec.ofInt 64 v).toNat:Int):=yX ..;rw[e3];unfold AY;omega
end Fi.S
namespace Fi.S
open Go Fi
set_option maxHeartbeats 8000000
theorem Qg (a:List bz):gD a []=[]:=by
 induction a with
 | nil=>rfl
 | cons p r ih =>
  have:gD (p::r) []=tC p []++gD r []:=by simp[gD]
  rw[this,ih];rfl
theorem Mk {k:Int}(hk:single k=true){S M:Nat}{x:Sv}(hx:x.of k S M):eB x (eP k)=eP k:=by
 rcases a_ hk with rfl|rfl|rfl|rfl|rfl
 ·cases x with
  | q x=>show Sv.q (x*0)=.q 0;rw[Rat.mul_zero]
  | c i n=>exact absurd hx.1 (by decide)
  | s u=>exact absurd hx.1 (by decide)
  | p a=>exact absurd hx.1 (by decide)
 ·cases x with
  | c i n =>
   show(if i||(true||decide (1099511627776<n+0)) then Sv.c true 0 else .c false (n+0))=.c true 0;simp
  | q x=>rcases hx.1 with h | h;exact absurd h (by decide);exact absurd h.1 (by decide)
  | s u=>exact absurd hx.1 (by decide)
  | p a=>exact absurd hx.1 (by decide)
 ·cases x with
  | q x=>show Sv.q (x*0)=.q 0;rw[Rat.mul_zero]
  | c i n=>exact absurd hx.1 (by decide)
  | s u=>exact absurd hx.1 (by decide)
  | p a=>exact absurd hx.1 (by decide)
 ·cases x with
  | s u =>
   show Sv.s (rX .u64 u 0)=.s 0;have:rX .u64 u 0=0:=by
    rw[Bj];have h0:BitVec.ofInt (IntKind.bits .u64) 0=0#(IntKind.bits .u64):=rfl;rw[h0,BitVec.and_zero];rfl
   rw[this]
  | q x=>rcases hx.1 with h | h;exact absurd h (by decide);exact absurd h.1 (by decide)
  | c i n=>exact absurd hx.1 (by decide)
  | p a=>exact absurd hx.1 (by decide)
 ·cases x with
  | p a =>
   show Sv.p (lH a [])=.p [];have:lH a []=[]:=by
    unfold lH;rw[Qg];simp[canon,gu]
   rw[this]
  | q x=>rcases hx.1 with h | h;exact absurd h (by decide);exact absurd h.1 (by decide)
  | c i n=>exact absurd hx.1 (by decide)
  | s u=>exact absurd hx.1 (by decide)
theorem G_ {k:Int}{ps:List Int}(hl:ps.length<=1000000){w:W}(hw:w.OK)(h:bO k ps w=true):Ca E1 41 [.d (aP k ps),.d w.d] (.d w.d,none):=by
 have t0:=sK k ps w hl hw;rw[h]at t0;obtain⟨N,t⟩:=(Ca.dW t0).get;obtain⟨vs,Y2,Y3,vc,vb,vu,vp,Y4,ev⟩:=w.aF;rw[ev]at t ⊢;refine Ca.bD (n:=N+60) ?_;rw[av rfl (k41:E1.fn _=_) rfl];unfold wD aP at*;generalize LK .i64 ps=l1 at*;clear ev t0;simp -implicitDefEqProofs[f41,t]
end Fi.S
