import Derived.Test.YthojoinggmjklaaGreatDoorCL
set_option linter.unusedVariables false
set_option linter.unusedSimpArgs false
noncomputable section
namespace Fi.S
open Go Fi
set_option maxHeartbeats 8000000
inductive Sv where
 | q (x:Rat)
 | c (i:Bool) (n:Int)
 | s (u:Int)
 | p (l:List bN)
def Sv.w:Sv->W
 | .q x=>.mk (qs x) (qn x) (qd x) 0 false 0 [] []
 | .c i n=>.mk false [] [] n i 0 [] []
 | .s u=>.mk false [] [] 0 false u [] []
 | .p l=>.mk false [] [] 0 false 0 (l.map rM) []
def Sv.of (k:Int)(S M:Nat):Sv->Prop
 | .q x=>(k=1\/(k=3/\0<=x/\x<=1))/\qz x<=S
 | .c i n=>k=2/\0<=n/\n<=1099511627776/\(i=true->n=0)
 | .s u=>k=4/\zL u
 | .p l=>k=5/\PV S l/\l.length<=M
theorem Sv.of.mono {k:Int}{S T M M':Nat}{x:Sv}(h:x.of k S M)(hST:S<=T)(hM:M<=M'):x.of k T M':=by
 cases x with
 | q x=>exact⟨h.1,Nat.le_trans h.2 hST⟩
 | c i n=>exact h
 | s u=>exact h
 | p l=>exact⟨h.1,h.2.1.mono hST,Nat.le_trans h.2.2 hM⟩
theorem U_ {s s':Bool}{a b a' b':List Nat}(h:raw s a b=raw s' a' b'):s=s'/\a=a'/\b=b':=by
 have inj:∀ {x y:List Nat},LL x=LL y->x=y:=by
  intro x
  induction x with
  | nil=>intro y hy;cases y with
   | nil=>rfl
   | cons z r=>cases hy
  | cons z r ih =>
   intro y hy;cases y with
   | nil=>cases hy
   | cons z' r' =>
    simp only[LL,List.map_cons,List.cons.injEq,D.v.injEq,Value.int.injEq,true_and]at hy;have h1:z=z':=by omega
    have h2:=ih (y:=r') hy.2;rw[h1,h2]
 simp only[raw,LD,D.a.injEq,List.cons.injEq,D.v.injEq,Value.bool.injEq,D.s.injEq,true_and,and_true]at h;exact⟨h.1,inj h.2.1,inj h.2.2⟩
theorem YA {s:Bool}{a b:List Nat}(ha:bK a)(hb:bK b)(h:df s a b=true):s=qs (bJ s a b)/\a=qn (bJ s a b)/\b=qd (bJ s a b) :=
 U_ (mO ha hb h)
theorem Eb {s:Bool}{a b:List Nat}:q0 s a b=true↔s=false/\a=[]/\b=[]:=by
 unfold q0;cases s<;>simp
theorem Ky {S:Nat}:∀ {l:List Mo} {q:Option Mo},(∀ m ∈ l,bK m.a/\bK m.b/\m.a.length<=S/\m.b.length<=S)->1<=S->ui q l=true->∃ es,l=es.map rM/\PV S es/\∀ m,q=some m->∀ p ∈ es,jh m.e p.1=true
 | [],q,_,_,_=>⟨[],rfl,PV.nil S,fun _ _ p hp=>by cases hp⟩
 | m::l,q,hm,hS,h=>by
  have hh:m.fits=true/\(∀ m',q=some m'->gW m'.e m.e<0)/\ui (some m) l=true:=by
   cases q with
   | none =>
    simp only[ui,Bool.and_eq_true]at h;exact⟨h.1,fun m' h'=>by(cases h'),h.2⟩
   | some m' =>
    simp only[ui,Bool.and_eq_true,decide_eq_true_eq]at h;exact⟨h.1.1,fun m'' h'=>by cases h';exact h.1.2,h.2⟩
  obtain⟨h1,h2,h3⟩:=hh;obtain⟨es,rfl,hpv,IK⟩:=Ky (fun x hx=>hm x (List.mem_cons_of_mem _ hx)) hS h3;obtain⟨e,s,a,b⟩:=m;obtain⟨la,lb,za,zb⟩:=hm _ (List.mem_cons_self ..);unfold Mo.fits at h1;simp only[Bool.and_eq_true,decide_eq_true_eq]at h1 la lb za zb;obtain⟨hf,hv,hne⟩:=h1;obtain⟨e1,e2,e3⟩:=YA la lb hv;have hz:=kZ la lb S za zb hS hv;generalize bJ s a b=x at*;subst e1 e2 e3;have hnz:x≠0:=by
   intro hx;subst hx;exact hne bW
  have hlt:∀ p ∈ es,jh e p.1=true:=fun p hp=>IK _ rfl p hp
  refine⟨(e,x)::es,rfl,⟨List.pairwise_cons.2 ⟨hlt,hpv.N_⟩,?_,?_,?_⟩,?_⟩
  ·intro p hp;rcases List.mem_cons.1 hp with rfl|hp
   ·exact hnz
   ·exact hpv.nz p hp
  ·intro p hp;rcases List.mem_cons.1 hp with rfl|hp
   ·exact hf
   ·exact hpv.fits p hp
  ·intro p hp;rcases List.mem_cons.1 hp with rfl|hp
   ·exact hz
   ·exact hpv.bd p hp
  ·intro m' hm' p hp;have h4:jh m'.e e=true:=decide_eq_true (h2 m' hm');rcases List.mem_cons.1 hp with rfl|hp
   ·exact h4
   ·exact kW h4 (hlt p hp)
end Fi.S
namespace Fi.S
open Go Fi
set_option maxHeartbeats 8000000
def uJ (i:Bool)(n:Int)(j:Bool)(m:Int):Bool := !i&&(j||decide (n<m))
noncomputable def dS (k:Int):Sv->Sv->Sv
 | .q x,.q y=>if k=3 then(if x<y then .q y else .q x) else .q (x+y)
 | .c i n,.c j m=>if uJ j m i n then .c j m else .c i n
 | .s u,.s v=>.s (Fe .u64 u v)
 | .p a,.p b=>.p (jB a b)
 | x,_=>x
theorem QE (x y:Rat)(hx:qz x<=100000)(hy:qz y<=100000):Ca E1 113 [.d (Sv.q x).w.d,.d (Sv.q y).w.d] (.d (Sv.q (x+y)).w.d,none):=by
 obtain⟨N,t⟩:=(Ca.iP (DT x y hx hy)).get;refine Ca.bO (n:=N+60) ?_;rw[aA rfl (k113:E1.fn _=_) rfl];generalize x+y=z at*;simp only[Sv.w,W.d,W.ds,PD,qD,raw,LD,List.map_nil]at*;generalize qs x=s1,qs y=s2,qs z=s3,LL (qn x)=x1,LL (qd x)=x2,LL (qn y)=y1,LL (qd y)=y2,LL (qn z)=z1,LL (qd z)=z2 at*;simp -implicitDefEqProofs[f113,t]
theorem QF (i j:Bool)(n m:Int):Ca E1 126 [.d (Sv.c i n).w.d,.d (Sv.c j m).w.d] (.d (.v (.bool (uJ i n j m))),none):=by
 refine Ca.bO (n:=60) ?_;rw[aA rfl (k126:E1.fn _=_) rfl];simp only[Sv.w,W.d,W.ds,PD,LD,LL,List.map_nil,uJ]at*;cases i<;>cases j<;>by_cases h:n<m<;>simp -implicitDefEqProofs[f126,h]
theorem QG (i j:Bool)(n m:Int):Ca E1 125 [.d (Sv.c i n).w.d,.d (Sv.c j m).w.d] (.d (dS 2 (.c i n) (.c j m)).w.d,none):=by
 obtain⟨N,t⟩:=(QF j i m n).get;refine Ca.bO (n:=N+60) ?_;rw[aA rfl (k125:E1.fn _=_) rfl];have e:dS 2 (.c i n) (.c j m)=if uJ j m i n then .c j m else .c i n:=rfl
 rw[e];clear e;generalize uJ j m i n=b at*;cases b
 ·simp only[Sv.w,W.d,W.ds,PD,LD,LL,List.map_nil,Bool.false_eq_true,if_false]at*;simp -implicitDefEqProofs[f125,t]
 ·simp only[Sv.w,W.d,W.ds,PD,LD,LL,List.map_nil,if_true]at*;simp -implicitDefEqProofs[f125,t]
theorem QH (u v:Int):Ca E1 142 [.d (Sv.s u).w.d,.d (Sv.s v).w.d] (.d (Sv.s (Fe .u64 u v)).w.d,none):=by
 refine Ca.bO (n:=60) ?_;rw[aA rfl (k142:E1.fn _=_) rfl];simp -implicitDefEqProofs[f142,Sv.w,W.d,W.ds,PD,LD,LL]
theorem YB (l:List bN):(Sv.p l).w.d=.a [.v (.bool false),.s 1 [],.s 1 [],.v (.int .i64 0),.v (.bool false),.v (.int .u64 0),bF l,.s 8 []]:=by
 simp only[Sv.w,W.d,W.ds,LD,LL,List.map_nil,D9]
theorem QI {S:Nat}{a b:List bN}(ha:PV S a)(hb:PV S b)(hS:S<=1000)(hm:(a++b).length*(S+1)<=50000):Ca E1 154 [.d (Sv.p a).w.d,.d (Sv.p b).w.d] (.d (Sv.p (jB a b)).w.d,none):=by
 obtain⟨N,t⟩:=(U1 ha hb hS hm).get;refine Ca.bO (n:=N+60) ?_;rw[aA rfl (k154:E1.fn _=_) rfl];simp only[YB];generalize jB a b=c at*;unfold bF at*;generalize (a.map fun p=>qC p.1 p.2)=x1,(b.map fun p=>qC p.1 p.2)=x2,(c.map fun p=>qC p.1 p.2)=x3 at*;simp -implicitDefEqProofs[f154,t]
theorem QJ (x:Rat):0<x.num↔0<x:=by
 have h:=@Rat.num_nonneg (-x);have e:(-x).num=-x.num:=by simp
 rw[e]at h;have h1:0<x.num↔¬ 0<=-x.num:=by omega
 have h2:0<x↔¬ 0<=-x:=by grind
 rw[h1,h2,h]
theorem Jf (x y:Rat)(hx:qz x<=100000)(hy:qz y<=100000):Ca E1 136 [.d (Sv.q x).w.d,.d (Sv.q y).w.d] (.d (.v (.bool (decide (y<x)))),none):=by
 obtain⟨N,t⟩:=(Ca.iP (xn x y hx hy)).get;refine Ca.bO (n:=N+60) ?_;rw[aA rfl (k136:E1.fn _=_) rfl];have hs:decide ((0:Int)<(x-y).num.sign)=decide (y<x):=by
  rw[decide_eq_decide,Int.sign_pos_iff,QJ];grind
 rw[<-hs];generalize (x-y).num.sign=z at*;simp only[Sv.w,W.d,W.ds,PD,qD,raw,LD,List.map_nil]at*;generalize qs x=s1,qs y=s2,LL (qn x)=x1,LL (qd x)=x2,LL (qn y)=y1,LL (qd y)=y2 at*;simp -implicitDefEqProofs[f136,t,LL]
theorem Mx (x y:Rat)(hx:qz x<=90000)(hy:qz y<=90000) :
  ∃ N,∀ (B:List ae) (j:Nat) (c0 c1 c2 c3 c4 c5 c7 c8:FV),B[j]?=some (.box [c0,c1,c2,c3,c4,c5,.d (.fn 136),c7,c8])->∀ k,CL E1 (N+k) 137 [.d (Sv.q x).w.d,.d (Sv.q y).w.d,.r (.old j) 0] B=some (.d (dS 3 (.q x) (.q y)).w.d,none):=by
 have hz:=nL;have hxy:dS 3 (.q x) (.q y)=.q ((if x<y then y else x)+0):=by
  have e:dS 3 (.q x) (.q y)=if x<y then .q y else .q x:=rfl
  have e2:∀ z:Rat,z+0=z:=fun z=>Rat.add_zero z
  rw[e,e2];split<;>rfl
 rw[hxy];obtain⟨M,hM,t1,t2⟩:=((Jf y x (by omega) (by omega)).j ((Ca.iP (DT (if x<y then y else x) 0 (by split<;>omega) (by omega))).any)).at 0;refine⟨M+100,fun B j c0 c1 c2 c3 c4 c5 c7 c8 hB k => ?_⟩;have hjl:j<B.length:=(aT hB)
 have Kr:∀ L,(B++L)[j]?=some (.box [c0,c1,c2,c3,c4,c5,.d (.fn 136),c7,c8]):=fun L=>by rw[List.getElem?_append_left hjl];exact hB
 replace t1:=fun m=>t1 (k+m)
 replace t2:=fun m=>t2 (k+m)
 simp only[<-Nat.add_assoc]at t1 t2;rw[show M+100+k=M+k+100 by omega];generalize M+k=m at*;rw[uH]at t2;rw[aA rfl (k137:E1.fn _=_) rfl]
 by_cases h:x<y
 ·rw[if_pos h]at t2 ⊢;rw[decide_eq_true h]at t1;generalize y+0=z at*;simp only[Sv.w,W.d,W.ds,PD,qD,raw,LD,List.map_nil]at*;generalize qs x=s1,qs y=s2,qs z=s3,LL (qn x)=x1,LL (qd x)=x2,LL (qn y)=y1,LL (qd y)=y2,LL (qn z)=z1,LL (qd z)=z2 at*;simp -implicitDefEqProofs[f137,t1,t2,Kr,LL]
 ·rw[if_neg h]at t2 ⊢;rw[decide_eq_false h]at t1;generalize x+0=z at*;simp only[Sv.w,W.d,W.ds,PD,qD,raw,LD,List.map_nil]at*;generalize qs x=s1,qs y=s2,qs z=s3,LL (qn x)=x1,LL (qd x)=x2,LL (qn y)=y1,LL (qd y)=y2,LL (qn z)=z1,LL (qd z)=z2 at*;simp -implicitDefEqProofs[f137,t1,t2,Kr,LL]
section
def wD (s:Bool)(l1 l2:List D)(c:Int)(b:Bool)(u:Int)(p ps:List D):D:=.a [.v (.bool s),.s 1 l1,.s 1 l2,.v (.int .i64 c),.v (.bool b),.v (.int .u64 u),.s 6 p,.s 8 ps]
theorem W.aW (w:W):∃ s l1 l2 c b u p ps,w.d=wD s l1 l2 c b u p ps:=by
 obtain⟨s,a,b,c,i,u,p,ps⟩:=w;exact⟨s,LL a,LL b,c,i,u,p.map Mo.d,W.ds ps,rfl⟩
section parts
variable (H:List ae) (iv iw i:Nat) (v0 v1 v2 v3 v4 v5 v6 w0 w1 w2 w3 w4 w5 w6:FV) (vs ws:List D) (x y z:W)
theorem QK (hv:H[iv]?=some (.box [v0,v1,v2,v3,v4,v5,v6,.d (.s 8 vs)]))(hw:H[iw]?=some (.box [w0,w1,w2,w3,w4,w5,w6,.d (.s 8 ws)]))(hx:vs[i]?=some x.d)(hy:ws[i]?=some y.d)
  (c0 c1 c2 c4 c5 c6 c7 c8 a b:Nat) (g M:Nat) (t:∀ m,CL E1 (M+m) g [.d x.d,.d y.d] []=some (.d z.d,none)) (m:Nat) :
  CL E1 (M+100+m) 45 [.a [.d (.fn c0),.d (.fn c1),.d (.fn c2),.d (.fn g),.d (.fn c4),.f c5 [] [.r (.old a) 0],.d (.fn c6),.d (.fn c7),.f c8 [] [.r (.old b) 0]],.d (.v (.int .i64 i)),.r (.old iv) 0,.r (.old iw) 0] H=some (.d z.d,none):=by
 have hvl:iv<H.length:=(aT hv)
 have hwl:iw<H.length:=(aT hw)
 have gv:∀ L,(H++L)[iv]?=some (.box [v0,v1,v2,v3,v4,v5,v6,.d (.s 8 vs)]):=fun L=>by rw[List.getElem?_append_left hvl];exact hv
 have gw:∀ L,(H++L)[iw]?=some (.box [w0,w1,w2,w3,w4,w5,w6,.d (.s 8 ws)]):=fun L=>by rw[List.getElem?_append_left hwl];exact hw
 have i1:i<vs.length:=(aT hx)
 have i2:i<ws.length:=(aT hy)
 have hi0:(0:Int)<=(i:Int):=by omega
 obtain⟨xs,xl1,xl2,xc,xb,xu,xp,xps,ex⟩:=x.aW;obtain⟨ys,YC,YD,yc,yb,yu,yp,yps,ey⟩:=y.aW;obtain⟨zs,EY,EZ,zc,zb,zu,zp,Gh,ez⟩:=z.aW;rw[ex]at hx t;rw[ey]at hy t;rw[ez]at t ⊢;replace t:=fun k=>t (m+k)
 simp only[<-Nat.add_assoc]at t;rw[show M+100+m=M+m+100 by omega];generalize M+m=n at*;rw[aA rfl (k45:E1.fn _=_) rfl];unfold wD at*;have j1:=idx hx;have j2:=idx hy;simp -implicitDefEqProofs[f45,t,gv,gw,i1,i2,hi0,j1,j2,hx,hy]
theorem QL (hv:H[iv]?=some (.box [v0,v1,v2,v3,v4,v5,v6,.d (.s 8 vs)]))(hw:H[iw]?=some (.box [w0,w1,w2,w3,w4,w5,w6,.d (.s 8 ws)]))(hx:vs[i]?=some x.d)(hy:ws[i]?=some y.d)
  (c0 c1 c2 c4 c5 c6 c7 c8:Nat) (g M:Nat) (t:∀ m,CL E1 (M+m) g [.d x.d,.d y.d] []=some (.d z.d,none)) (m:Nat) :
  CL E1 (M+100+m) 45 [.d (.a [.fn c0,.fn c1,.fn c2,.fn g,.fn c4,.fn c5,.fn c6,.fn c7,.fn c8]),.d (.v (.int .i64 i)),.r (.old iv) 0,.r (.old iw) 0] H=some (.d z.d,none):=by
 have hvl:iv<H.length:=(aT hv)
 have hwl:iw<H.length:=(aT hw)
 have gv:∀ L,(H++L)[iv]?=some (.box [v0,v1,v2,v3,v4,v5,v6,.d (.s 8 vs)]):=fun L=>by rw[List.getElem?_append_left hvl];exact hv
 have gw:∀ L,(H++L)[iw]?=some (.box [w0,w1,w2,w3,w4,w5,w6,.d (.s 8 ws)]):=fun L=>by rw[List.getElem?_append_left hwl];exact hw
 have i1:i<vs.length:=(aT hx)
 have i2:i<ws.length:=(aT hy)
 have hi0:(0:Int)<=(i:Int):=by omega
 obtain⟨xs,xl1,xl2,xc,xb,xu,xp,xps,ex⟩:=x.aW;obtain⟨ys,YC,YD,yc,yb,yu,yp,yps,ey⟩:=y.aW;obtain⟨zs,EY,EZ,zc,zb,zu,zp,Gh,ez⟩:=z.aW;rw[ex]at hx t;rw[ey]at hy t;rw[ez]at t ⊢;replace t:=fun k=>t (m+k)
 simp only[<-Nat.add_assoc]at t;rw[show M+100+m=M+m+100 by omega];generalize M+m=n at*;rw[aA rfl (k45:E1.fn _=_) rfl];unfold wD at*;have j1:=idx hx;have j2:=idx hy;simp -implicitDefEqProofs[f45,t,gv,gw,i1,i2,hi0,j1,j2,hx,hy]
theorem YE (hv:H[iv]?=some (.box [v0,v1,v2,v3,v4,v5,v6,.d (.s 8 vs)]))(hw:H[iw]?=some (.box [w0,w1,w2,w3,w4,w5,w6,.d (.s 8 ws)]))(hx:vs[i]?=some x.d)(hy:ws[i]?=some y.d)
  (c0 c1 c2 c4 c5 c6 c7 c8 a b:Nat) (j M:Nat) (o:ae) (hj:H[j]?=some o) (ho:∀ n,ae.az n o=o) (t:∀ B,B[j]?=some o->∀ m,CL E1 (M+m) 137 [.d x.d,.d y.d,.r (.old j) 0] B=some (.d z.d,none)) (m:Nat) :
  CL E1 (M+100+m) 45 [.a [.d (.fn c0),.d (.fn c1),.d (.fn c2),.f 137 [] [.r (.old j) 0],.d (.fn c4),.f c5 [] [.r (.old a) 0],.d (.fn c6),.d (.fn c7),.f c8 [] [.r (.old b) 0]],.d (.v (.int .i64 i)),.r (.old iv) 0,.r (.old iw) 0] H=some (.d z.d,none):=by
 have hvl:iv<H.length:=(aT hv)
 have hwl:iw<H.length:=(aT hw)
 have hjl:j<H.length:=(aT hj)
 have gv:∀ L,(H++L)[iv]?=some (.box [v0,v1,v2,v3,v4,v5,v6,.d (.s 8 vs)]):=fun L=>by rw[List.getElem?_append_left hvl];exact hv
 have gw:∀ L,(H++L)[iw]?=some (.box [w0,w1,w2,w3,w4,w5,w6,.d (.s 8 ws)]):=fun L=>by rw[List.getElem?_append_left hwl];exact hw
 have i1:i<vs.length:=(aT hx)
 have i2:i<ws.length:=(aT hy)
 have hi0:(0:Int)<=(i:Int):=by omega
 obtain⟨xs,xl1,xl2,xc,xb,xu,xp,xps,ex⟩:=x.aW;obtain⟨ys,YC,YD,yc,yb,yu,yp,yps,ey⟩:=y.aW;obtain⟨zs,EY,EZ,zc,zb,zu,zp,Gh,ez⟩:=z.aW;rw[ex]at hx t;rw[ey]at hy t;rw[ez]at t ⊢;have gj:∀ L,(List.map (ae.az H.length) H++L)[j]?=some o:=fun L=>by rw[List.getElem?_append_left (by simpa using hjl),List.getElem?_map,hj];exact congrArg some (ho _)
 replace t:=fun L k=>t (List.map (ae.az H.length) H++L) (gj L) (m+k)
 simp only[<-Nat.add_assoc]at t;rw[show M+100+m=M+m+100 by omega];generalize M+m=n at*;rw[aA rfl (k45:E1.fn _=_) rfl];unfold wD at*;have j1:=idx hx;have j2:=idx hy;simp -implicitDefEqProofs[f45,t,FV.az,FV.aN,gv,gw,i1,i2,hi0,j1,j2,hx,hy]
end parts
end
def QM (k:Int)(o:Nat):FV :=
 if k=1 then pI else if k=5 then pG
 else if k=2 then .a [(.d (.fn 122)),(.d (.fn 123)),(.d (.fn 124)),(.d (.fn 125)),(.d (.fn 127)),(.f 195 [] [(.r (.old (o+3)) 0)]),(.d (.fn 126)),(.d (.fn 128)),(.f 131 [] [(.r (.old (o+2)) 0)])]
 else if k=3 then .a [(.d (.fn 133)),(.d (.fn 110)),(.d (.fn 111)),(.f 137 [] [(.r (.old (o+2)) 0)]),(.d (.fn 115)),(.f 195 [] [(.r (.old (o+3)) 0)]),(.d (.fn 136)),(.d (.fn 119)),(.f 138 [] [(.r (.old (o+2)) 0)])]
 else .a [(.d (.fn 139)),(.d (.fn 140)),(.d (.fn 141)),(.d (.fn 142)),(.d (.fn 143)),(.f 195 [] [(.r (.old (o+3)) 0)]),(.d (.fn 118)),(.d (.fn 144)),(.f 147 [] [(.r (.old (o+2)) 0)])]
def BF (o:Nat):ae:=.box [(.d (.fn 133)),(.d (.fn 110)),(.d (.fn 111)),(.f 137 [] [(.r (.old (o+2)) 0)]),(.d (.fn 115)),(.f 195 [] [(.r (.old (o+3)) 0)]),(.d (.fn 136)),(.d (.fn 119)),(.f 138 [] [(.r (.old (o+2)) 0)])]
theorem QN (o n:Nat):ae.az n (BF o)=BF o:=by simp[BF,ae.az,FV.az,FV.aN]
def dQ (px:FV):ae:=.box [.d (.v (.bool false)),.d (.n 1),.d (.n 1),.d (.v (.int .i64 0)),.d (.v (.bool false)),.d (.v (.int .u64 0)),.d (.n 6),px]
def sW (px:FV)(L:List ae)(zs:List D):Prop:=(px=.d (.n 8)/\zs=[])\/∃ j av,px=.ls (.loc j) av 8 0 zs.length/\L[j]?=some (.row av 8 zs)
def Va:aD:=f43.body.r.r.l.r.bl.lp
def Jg (g iv iw:Nat)(ps:List Int)(i:Nat)(t:FV)(B L:List ae)(dt:Bool:=false):St :=
 {vars:=[.u,.f g [] [.r (.old iv) 0,.r (.old iw) 0],.u,.r (.loc 1) 0,.r (.loc 2) 0,.u,.u,.d (.s 1 (LK .i64 ps)),.d (.v (.int .i64 ps.length)),.d (.v (.int .i64 i)),t],base:=B,loc:=L,aO:=dt}
def MB (k:Int):Nat:=if k=2 then 124 else if k=3 then 111 else 141
def Ec (g iv iw:Nat)(vb wb:ae)(k:Int)(i:Nat)(z:W):Prop :=
 ∃ N,∀ (H:List ae) (o:Nat),H[iv]?=some vb->H[iw]?=some wb->(k=3->H[o+2]?=some (BF o))->(k≠1->k≠5->H[o+3]?=some (.box [.d (.fn (MB k))]))->∀ m,CL E1 (N+m) g [QM k o,.d (.v (.int .i64 i)),.r (.old iv) 0,.r (.old iw) 0] H=some (.d z.d,none)
def uK (k:Int):FV × Option (List ae):=if k=1 then(pI,none) else if k=2 then(sG,some pJ) else if k=3 then(sH,some pK) else if k=4 then(sK,some pM) else(pG,none)
theorem Kz {k:Int}(hk:single k=true):Ca E1 42 [.d (.v (.int .i64 k))] (uK k):=by
 rcases bL hk with rfl|rfl|rfl|rfl|rfl
 ·exact Ca.iP (Ca.of zD)
 ·exact Ca.iP (Ca.of zG)
 ·exact Ca.iP (Ca.of zH)
 ·exact Ca.iP (Ca.of zI)
 ·exact Ca.iP (Ca.of zF)
def Jh (r:Nat->Ref)(k:Int)(o:Nat):List FV:=if k=2 then [(.d (.fn 122)),(.d (.fn 123)),(.d (.fn 124)),(.d (.fn 125)),(.d (.fn 127)),(.f 195 [] [(.r (r (o+3)) 0)]),(.d (.fn 126)),(.d (.fn 128)),(.f 131 [] [(.r (r (o+2)) 0)])] else if k=3 then [(.d (.fn 133)),(.d (.fn 110)),(.d (.fn 111)),(.f 137 [] [(.r (r (o+2)) 0)]),(.d (.fn 115)),(.f 195 [] [(.r (r (o+3)) 0)]),(.d (.fn 136)),(.d (.fn 119)),(.f 138 [] [(.r (r (o+2)) 0)])] else [(.d (.fn 139)),(.d (.fn 140)),(.d (.fn 141)),(.d (.fn 142)),(.d (.fn 143)),(.f 195 [] [(.r (r (o+3)) 0)]),(.d (.fn 118)),(.d (.fn 144)),(.f 147 [] [(.r (r (o+2)) 0)])]
def Gi (r:Nat->Ref)(k:Int)(o:Nat):List ae:=[.box (Jh r k o),.box (Jh r k o),.box (Jh r k o),.box [.d (.fn (MB k))]]
theorem QO (g iv iw:Nat)(ps:List Int)(i:Nat)(k:Int)(B L:List ae)(dt:Bool)(vb wb:ae)(px:FV)(zs:List D)(z:W)(hk:ps[i]?=some k)(hs:single k=true)(hn:ps.length<=3)
  (hv:B[iv]?=some vb) (hw:B[iw]?=some wb) (ov:∀ n,ae.az n vb=vb) (ow:∀ n,ae.az n wb=wb) (aek:Ec g iv iw vb wb k i z) (h1:L[1]?=some (dQ (.d (.n 8)))) (h2:L[2]?=some (dQ px)) (ho:sW px L zs) (hz:zs.length<=3) :
  ∃ qX L',Ex E1 Va (Jg g iv iw ps i .u B L dt) (.norm,Jg g iv iw ps (i+1) .u B L' dt)/\L'[1]?=some (dQ (.d (.n 8)))/\L'[2]?=some (dQ qX)/\sW qX L' (zs++[z.d]):=by
 obtain⟨N,t⟩:=aek;have hvl:iv<B.length:=(aT hv)
 have hwl:iw<B.length:=(aT hw)
 have YF:1<L.length:=(aT h1)
 have MC:2<L.length:=(aT h2)
 have hil:i<ps.length:=(aT hk)
 have n1:(LK .i64 ps).length=ps.length:=by simp[LK]
 have e1:(LK .i64 ps)[i]?=some (.v (.int .i64 k)):=by simp[LK,hk]
 have aR:ak .i64 ((i:Int)+1)=(i:Int)+1:=wrap_i64 (by omega);have hk1:((i+1:Nat):Int)=(i:Int)+1:=by omega
 have hk0:(0:Int)<=(i:Int):=by omega
 have hkc:(i:Int)<(ps.length:Int):=by omega
 obtain⟨zs1,EY,EZ,zc,zb,zu,zp,Gh,ez⟩:=z.aW;rw[ez]at t ⊢;unfold wD at*;have hvH:∀ L,(List.map (ae.az B.length) B++L)[iv]?=some vb:=fun L=>by rw[List.getElem?_append_left (by simpa using hvl),List.getElem?_map,hv];exact congrArg some (ov _)
 have hwH:∀ L,(List.map (ae.az B.length) B++L)[iw]?=some wb:=fun L=>by rw[List.getElem?_append_left (by simpa using hwl),List.getElem?_map,hw];exact congrArg some (ow _)
 obtain⟨K,t42⟩:=(Kz hs).any;obtain⟨M,hM⟩:∃ M,M=N+K:=⟨_,rfl⟩
 replace t42:=t42 M (by omega);have five:=bL hs;have g2:∀ X,(L++X)[2]?=some (dQ px):=fun X=>by rw[List.getElem?_append_left MC];exact h2
 have ME:∀ {j av} (hj:L[j]?=some (.row av 8 zs)),j<L.length/\j≠2/\j≠1/\(∀ X,(L++X)[j]?=some (.row av 8 zs))/\(∀ r,(L.set j r)[2]?=some (dQ px))/\∀ r X,(L.set j r++X)[2]?=some (dQ px):=fun {j av} hj=>by
  have hjl:j<L.length:=(aT hj)
  have hj2:j≠2:=fun h=>by
   subst h;rw[h2]at hj;cases hj
  have s2:∀ r,(L.set j r)[2]?=some (dQ px):=fun r=>by rw[List.getElem?_set_ne hj2];exact h2
  refine⟨hjl,hj2,fun h => ?_,fun X=>by rw[List.getElem?_append_left hjl];exact hj,s2,fun r X=>by rw[List.getElem?_append_left (by simpa using MC)];exact s2 r⟩;subst h;rw[h1]at hj;cases hj
 have m1:(zs.length+1)*128<=1099511627776:=by omega
 have m2:zs.length+1<=1099511627776:=by omega
 by_cases hp:k=1\/k=5
 ·replace t:=fun m=>dM (t (List.map (ae.az B.length) B++List.map (ae.az B.length) L) (B.length+L.length) (hvH _) (hwH _) (fun h=>by omega) (fun _ _=>by omega) 0) (show N+0<=M+m by omega)
  rcases ho with ⟨rfl,rfl⟩|⟨j,av,rfl,hj⟩
  ·refine⟨.ls (.loc L.length) 0 8 0 1,(L.set 2 (dQ (.ls (.loc L.length) 0 8 0 1)))++[.row 0 8 [(.a [D.v (.bool zs1),.s 1 EY,.s 1 EZ,.v (.int .i64 zc),.v (.bool zb),.v (.int .u64 zu),.s 6 zp,.s 8 Gh])]],Ex.of (n:=M+100) ?_,?_,?_,.inr ⟨L.length,0,rfl,by simp⟩⟩
   ·unfold Jg;rw[hk1];clear hvH hwH ov ow hv hw h1 ME;unfold dQ at*;generalize LK .i64 ps=l1 at*;have i1:=idx e1;have i2:=idx h2;rcases hp with rfl|rfl
    all_goals
     simp[QM,uK,pI,BB,pG]at t42 t;simp -implicitDefEqProofs[Va,f43,aR,hk0,hkc,hil,n1,i1,t42,t,FV.az,FV.aN,most,dA,fH,checked,l7,BG,i2,MC,g2]
   ·rw[List.getElem?_append_left (by simpa using YF),List.getElem?_set_ne (by omega)];exact h1
   ·rw[List.getElem?_append_left (by simpa using MC)];exact List.getElem?_set_self MC
  ·obtain⟨hjl,hj2,hj1,gj,s2,s2X⟩:=ME hj;refine⟨.ls (.loc j) (av+1) 8 0 (zs.length+1),((L.set j (.row (av+1) 8 (zs++[(.a [D.v (.bool zs1),.s 1 EY,.s 1 EZ,.v (.int .i64 zc),.v (.bool zb),.v (.int .u64 zu),.s 6 zp,.s 8 Gh])]))).set 2 (dQ (.ls (.loc j) (av+1) 8 0 (zs.length+1)))),Ex.of (n:=M+100) ?_,?_,?_,.inr ⟨j,av+1,by simp,?_⟩⟩
   ·unfold Jg;rw[hk1];clear hvH hwH ov ow hv hw h1 ME;unfold dQ at*;generalize LK .i64 ps=l1 at*;have i1:=idx e1;have i2:=idx h2;have i3:=idx hj;have i4:∀ r (h:2<(L.set j r).length),(L.set j r)[2]=_:=fun r h=>idx (s2 r) h
    rcases hp with rfl|rfl
    all_goals
     simp[QM,uK,pI,BB,pG]at t42 t;simp -implicitDefEqProofs[Va,f43,aR,hk0,hkc,hil,n1,i1,t42,t,FV.az,FV.aN,most,dA,fH,checked,l7,BG,Ref.abs,i2,i3,i4,MC,hjl,m1,m2]
   ·rw[List.getElem?_set_ne (by omega),List.getElem?_set_ne hj1];exact h1
   ·exact List.getElem?_set_self (by simpa using MC)
   ·rw[List.getElem?_set_ne (fun h=>hj2 h.symm)];exact List.getElem?_set_self hjl
 ·replace t:=fun m=>dM (t (List.map (ae.az B.length) B++(List.map (ae.az B.length) L++Gi .old k (B.length+L.length))) (B.length+L.length) (hvH _) (hwH _) (fun h=>by subst h;rw[List.getElem?_append_right (by simp;omega)];simp;rw[List.getElem?_append_right (by simp;omega)];simp;rw[show B.length+L.length+2-B.length-L.length=2 by omega];rfl) (fun _ _=>by rw[List.getElem?_append_right (by simp;omega)];simp;rw[List.getElem?_append_right (by simp;omega)];simp;rw[show B.length+L.length+3-B.length-L.length=3 by omega];rfl) 0) (show N+0<=M+m by omega)
  have hp':k=2\/k=3\/k=4:=by omega
  rcases ho with ⟨rfl,rfl⟩|⟨j,av,rfl,hj⟩
  ·refine⟨.ls (.loc (L.length+4)) 0 8 0 1,(L.set 2 (dQ (.ls (.loc (L.length+4)) 0 8 0 1)))++Gi .loc k L.length++[.row 0 8 [(.a [D.v (.bool zs1),.s 1 EY,.s 1 EZ,.v (.int .i64 zc),.v (.bool zb),.v (.int .u64 zu),.s 6 zp,.s 8 Gh])]],Ex.of (n:=M+100) ?_,?_,?_,.inr ⟨(L.length+4),0,rfl,by simp[Gi]⟩⟩
   ·unfold Jg;rw[hk1];clear hvH hwH ov ow hv hw h1 ME;unfold dQ at*;generalize LK .i64 ps=l1 at*;have i1:=idx e1;have i2:=idx h2;rcases hp' with rfl|rfl|rfl
    all_goals
     simp[QM,uK,sG,nE,pJ,sH,nG,pK,sK,nH,pM,Gi,Jh,MB]at t42 t;simp only[Nat.add_assoc]at t;simp -implicitDefEqProofs[Va,f43,aR,hk0,hkc,hil,n1,i1,t42,t,FV.az,FV.aN,FV.shift,FV.iE,ae.shift,ae.az,most,dA,fH,checked,l7,BG,i2,MC,Gi,Jh,MB]
   ·rw[List.append_assoc,List.getElem?_append_left (by simpa using YF),List.getElem?_set_ne (by omega)];exact h1
   ·rw[List.append_assoc,List.getElem?_append_left (by simpa using MC)];exact List.getElem?_set_self MC
  ·obtain⟨hjl,hj2,hj1,gj,s2,s2X⟩:=ME hj;refine⟨.ls (.loc j) (av+1) 8 0 (zs.length+1),((L.set j (.row (av+1) 8 (zs++[(.a [D.v (.bool zs1),.s 1 EY,.s 1 EZ,.v (.int .i64 zc),.v (.bool zb),.v (.int .u64 zu),.s 6 zp,.s 8 Gh])]))).set 2 (dQ (.ls (.loc j) (av+1) 8 0 (zs.length+1))))++Gi .loc k L.length,Ex.of (n:=M+100) ?_,?_,?_,.inr ⟨j,av+1,by simp,?_⟩⟩
   ·unfold Jg;rw[hk1];clear hvH hwH ov ow hv hw h1 ME;unfold dQ at*;generalize LK .i64 ps=l1 at*;have i1:=idx e1;have i2:=idx h2;have i3:=idx hj;have i4:∀ r (h:2<(L.set j r).length),(L.set j r)[2]=_:=fun r h=>idx (s2 r) h
    rcases hp' with rfl|rfl|rfl
    all_goals
     simp[QM,uK,sG,nE,pJ,sH,nG,pK,sK,nH,pM,Gi,Jh,MB]at t42 t;simp only[Nat.add_assoc]at t;simp -implicitDefEqProofs[Va,f43,aR,hk0,hkc,hil,n1,i1,t42,t,FV.az,FV.aN,FV.shift,FV.iE,ae.shift,ae.az,most,dA,fH,checked,l7,BG,Ref.abs,i2,i4,MC,hjl,gj,m1,m2,Gi,Jh,MB]
   ·rw[List.getElem?_append_left (by simpa using YF)];rw[List.getElem?_set_ne (by omega),List.getElem?_set_ne hj1];exact h1
   ·rw[List.getElem?_append_left (by simpa using MC)];exact List.getElem?_set_self (by simpa using MC)
   ·rw[List.getElem?_append_left (by simpa using hjl)];rw[List.getElem?_set_ne (fun h=>hj2 h.symm)];exact List.getElem?_set_self hjl
theorem nO {E:Env}{g:Nat}{F:ai}{args:List FV}{B:List ae}{o:Out}{st1:St}{r:FV × Option (List ae)}(hp:E.iF g=none)(hf:E.fn g=some F)(hl:args.length=F.np)
  (h:Ex E F.body {vars:=args++List.replicate (F.nv-F.np) .u,base:=B,loc:=[],aO:=false} (o,st1)) (ho:∀ id,o≠.exit id) (hr:finish F st1=some r):∃ N,∀ m,CL E (N+m) g args B=some r:=by
 obtain⟨n0,h⟩:=h;refine⟨n0,fun m => ?_⟩;rw[iV,Ed hp hf hl,h (n0+m) (by omega)];cases o with
 | exit id=>exact absurd rfl (ho id)
 | norm=>exact hr
 | ret=>exact hr
def gu (zs:List W):W:=.mk false [] [] 0 false 0 [] zs
theorem Vb (g iv iw:Nat)(ps:List Int)(B:List ae)(vb wb:ae)(zs:List W)(hs:∀ k ∈ ps,single k=true)(hn:ps.length<=3)(hz:zs.length=ps.length)
  (hv:B[iv]?=some vb) (hw:B[iw]?=some wb) (ov:∀ n,ae.az n vb=vb) (ow:∀ n,ae.az n wb=wb) (hst:∀ i k z,ps[i]?=some k->zs[i]?=some z->Ec g iv iw vb wb k i z)
  (L:List ae) (h1:L[1]?=some (dQ (.d (.n 8)))) (h2:L[2]?=some (dQ (.d (.n 8)))) :
  ∃ qX L',Ex E1 (.loop Va) (Jg g iv iw ps 0 .u B L) (.exit 0,Jg g iv iw ps ps.length (.d (.v (.bool false))) B L')/\L'[1]?=some (dQ (.d (.n 8)))/\L'[2]?=some (dQ qX)/\sW qX L' (W.ds zs):=by
 obtain⟨r,hx,qX,L',rfl,h5,h3,h4⟩:=Ex.inv (E:=E1) (b:=Va) (α:=Nat × FV × List ae) (S:=fun a=>Jg g iv iw ps a.1 .u B a.2.2) (fun a=>ps.length-a.1)
  (fun a=>a.1<=ps.length/\a.2.2[1]?=some (dQ (.d (.n 8)))/\a.2.2[2]?=some (dQ a.2.1)/\sW a.2.1 a.2.2 (W.ds (zs.take a.1)))
  (fun r=>∃ qX L',r=(.exit 0,Jg g iv iw ps ps.length (.d (.v (.bool false))) B L')/\L'[1]?=some (dQ (.d (.n 8)))/\L'[2]?=some (dQ qX)/\sW qX L' (W.ds zs)) (by
   rintro⟨i,px,L⟩ ⟨q1,q0,q2,q3⟩;simp only at q1 q0 q2 q3
   by_cases hi:i<ps.length
   ·have hk:ps[i]?=some ps[i]:=List.getElem?_eq_getElem hi;have hzi:zs[i]?=some (zs[i]'(by omega)):=List.getElem?_eq_getElem (by omega);have hlen:(W.ds (zs.take i)).length<=3:=by simp[W.fA];omega
    obtain⟨qX,L',g1,g0,g2,g3⟩:=QO g iv iw ps i ps[i] B L false vb wb px _ _ hk (hs _ (List.getElem_mem hi)) hn hv hw ov ow (hst i _ _ hk hzi) q0 q2 q3 hlen;refine .inl ⟨(i+1,qX,L'),g1,by show ps.length-(i+1)<ps.length-i;omega,by show i+1<=_;omega,g0,g2,?_⟩;show sW qX L' (W.ds (zs.take (i+1)));rw[List.take_add_one,hzi];have e:W.ds (zs.take i++[zs[i]'(by omega)])=W.ds (zs.take i)++[(zs[i]'(by omega)).d]:=by simp only[W.fA,List.map_append,List.map_cons,List.map_nil]
    show sW qX L' (W.ds (zs.take i++[zs[i]'(by omega)]));rw[e];exact g3
   ·obtain rfl:i=ps.length:=by omega
    rw[<-hz,List.take_length]at q3;refine .inr ⟨_,Ex.of (n:=60) ?_,?_,px,L,rfl,q0,q2,q3⟩
    ·unfold Jg;generalize LK .i64 ps=l1,ps.length=n at*;simp -implicitDefEqProofs[Va,f43]
    ·simp) (0,.d (.n 8),L) ⟨Nat.zero_le _,h1,h2,.inl ⟨rfl,rfl⟩⟩
 exact⟨qX,L',hx,h5,h3,h4⟩
theorem QP (g iv iw:Nat)(kk:Int)(ps:List Int)(B:List ae)(vb wb:ae)(zs:List W)(hs:∀ k ∈ ps,single k=true)(hn:ps.length<=3)(hz:zs.length=ps.length)
  (hv:B[iv]?=some vb) (hw:B[iw]?=some wb) (ov:∀ n,ae.az n vb=vb) (ow:∀ n,ae.az n wb=wb) (hst:∀ i k z,ps[i]?=some k->zs[i]?=some z->Ec g iv iw vb wb k i z) :
  ∃ N,∀ m,CL E1 (N+m) 43 [.d (bG kk ps),.f g [] [.r (.old iv) 0,.r (.old iw) 0]] B=some (.d (gu zs).d,none):=by
 have n1:(LK .i64 ps).length=ps.length:=by simp[LK]
 have hA:Ex E1 f43.body.l {vars:=[.d (bG kk ps),.f g [] [.r (.old iv) 0,.r (.old iw) 0],.u,.u,.u,.u,.u,.u,.u,.u,.u],base:=B,loc:=[],aO:=false}
   (.norm,{vars:=[.u,.f g [] [.r (.old iv) 0,.r (.old iw) 0],.r (.loc 0) 0,.r (.loc 1) 0,.u,.u,.u,.u,.u,.u,.u],base:=B,loc:=[.box [.d (.v (.int .i64 kk)),.d (.s 1 (LK .i64 ps))],dQ (.d (.n 8))],aO:=false}):=by
  refine Ex.of (n:=60) ?_;unfold bG dQ;generalize LK .i64 ps=l1 at*;simp -implicitDefEqProofs[f43]
 have hB:Ex E1 f43.body.r.l {vars:=[.u,.f g [] [.r (.old iv) 0,.r (.old iw) 0],.r (.loc 0) 0,.r (.loc 1) 0,.u,.u,.u,.u,.u,.u,.u],base:=B,loc:=[.box [.d (.v (.int .i64 kk)),.d (.s 1 (LK .i64 ps))],dQ (.d (.n 8))],aO:=false}
   (.norm,{vars:=[.u,.f g [] [.r (.old iv) 0,.r (.old iw) 0],.r (.loc 0) 0,.r (.loc 1) 0,.r (.loc 2) 0,.u,.u,.u,.u,.u,.u],base:=B,loc:=[.box [.d (.v (.int .i64 kk)),.d (.s 1 (LK .i64 ps))],dQ (.d (.n 8)),dQ (.d (.n 8))],aO:=false}):=by
  refine Ex.of (n:=60) ?_;unfold dQ;generalize LK .i64 ps=l1 at*;simp -implicitDefEqProofs[f43]
 have hC:Ex E1 f43.body.r.r.l.l {vars:=[.u,.f g [] [.r (.old iv) 0,.r (.old iw) 0],.r (.loc 0) 0,.r (.loc 1) 0,.r (.loc 2) 0,.u,.u,.u,.u,.u,.u],base:=B,loc:=[.box [.d (.v (.int .i64 kk)),.d (.s 1 (LK .i64 ps))],dQ (.d (.n 8)),dQ (.d (.n 8))],aO:=false}
   (.norm,Jg g iv iw ps 0 .u B [.box [.d (.v (.int .i64 kk)),.d (.s 1 (LK .i64 ps))],dQ (.d (.n 8)),dQ (.d (.n 8))]):=by
  refine Ex.of (n:=60) ?_;unfold Jg dQ;generalize LK .i64 ps=l1 at*;simp -implicitDefEqProofs[f43,n1]
 obtain⟨px,L,hl,h1,h2,ho⟩:=Vb g iv iw ps B vb wb zs hs hn hz hv hw ov ow hst [.box [.d (.v (.int .i64 kk)),.d (.s 1 (LK .i64 ps))],dQ (.d (.n 8)),dQ (.d (.n 8))] rfl rfl;have hds:(gu zs).d=.a [.v (.bool false),.s 1 [],.s 1 [],.v (.int .i64 0),.v (.bool false),.v (.int .u64 0),.s 6 [],.s 8 (W.ds zs)]:=rfl;have YF:1<L.length:=(aT h1)
 have hD:Ex E1 f43.body.r.r.r (Jg g iv iw ps ps.length (.d (.v (.bool false))) B L)
   (.ret,{vars:=[.u,.u,.u,.r (.loc 1) 0,.u,.u,.u,.u,.u,.u,.u],base:=B,loc:=L.set 1 (dQ px),aO:=false}):=by
  refine Ex.of (n:=60) ?_;unfold Jg dQ at*;generalize LK .i64 ps=l1 at*;have i1:=idx h1;have i2:=idx h2;rcases ho with ⟨rfl,_⟩|⟨j,av,rfl,_⟩
  ·simp -implicitDefEqProofs[f43,h1,h2,i1,i2,YF]
  ·simp -implicitDefEqProofs[f43,h1,h2,i1,i2,YF]
 refine nO (o:=.ret) (st1:={vars:=[.u,.u,.u,.r (.loc 1) 0,.u,.u,.u,.u,.u,.u,.u],base:=B,loc:=L.set 1 (dQ px),aO:=false}) rfl (k43:E1.fn _=_) rfl ?_ (by intro id h;cases h) ?_
 ·show Ex E1 (.seq f43.body.l (.seq f43.body.r.l (.seq (.seq f43.body.r.r.l.l (.block 0 (.loop Va))) f43.body.r.r.r))) _ _;exact hA.seq (hB.seq ((hC.seq hl.block).seq hD))
 ·rw[hds];unfold dQ at*;have s1:∀ o,(L.set 1 o)[1]?=some o:=fun o=>List.getElem?_set_self YF
  rcases ho with ⟨rfl,e⟩|⟨j,av,rfl,hj⟩
  ·rw[e];simp -implicitDefEqProofs[f43,s1]
  ·have hj1:j≠1:=fun h=>by
    subst h;rw[h1]at hj;cases hj
   have sj:∀ o,(L.set 1 o)[j]?=some (.row av 8 (W.ds zs)):=fun o=>by rw[List.getElem?_set_ne (fun h=>hj1 h.symm)];exact hj
   have ev:ae.view av 8 0 (W.ds zs).length (.row av 8 (W.ds zs))=some (W.ds zs):=by simp[ae.view]
   generalize W.ds zs=es at*;simp -implicitDefEqProofs[f43,s1,sj,ev]
end Fi.S
namespace Fi.S
open Go Fi
set_option maxHeartbeats 8000000
theorem KA {k:Int}{ps:List Int}(h:aQ k ps=true)(n:Nat):CL E1 (n+500) 31 [.d (bG k ps)] []=some (.d (.v (.bool true)),none):=by
 have:=(Ca.iP (Ca.bO (nD 0 k ps)))
 have t:=nD n k ps;rw[h]at t;rw[iV]at t ⊢;exact pU sO (uG sO _) t
theorem sv1 {k:Int}(hk:single k=true):aQ k []=true:=by
 rcases bL hk with rfl|rfl|rfl|rfl|rfl<;>rfl
section
section parts
variable (H:List ae) (iv iw i:Nat) (v0 v1 v2 v3 v4 v5 v6 w0 w1 w2 w3 w4 w5 w6:FV) (vs ws:List D) (x y z:W)
end parts
end
end Fi.S
namespace Fi.S
open Go Fi
set_option maxHeartbeats 8000000
section
def KC (k:Int):Nat:=if k=1 then 113 else if k=2 then 125 else if k=4 then 142 else 154
def KD (k:Int)(x y z:W):Prop :=
 ∃ N,(k=3->∀ (B:List ae) (j o:Nat),B[j]?=some (BF o)->∀ m,CL E1 (N+m) 137 [.d x.d,.d y.d,.r (.old j) 0] B=some (.d z.d,none)) /\
  (k≠3->∀ m,CL E1 (N+m) (KC k) [.d x.d,.d y.d] []=some (.d z.d,none))
section steps
variable {iv iw i:Nat} {v0 v1 v2 v3 v4 v5 v6 w0 w1 w2 w3 w4 w5 w6:FV} {vs ws:List D} {x y z:W} {k:Int}
theorem MF (hk:single k=true)(h:KD k x y z)(hx:vs[i]?=some x.d)(hy:ws[i]?=some y.d):Ec 45 iv iw (.box [v0,v1,v2,v3,v4,v5,v6,.d (.s 8 vs)]) (.box [w0,w1,w2,w3,w4,w5,w6,.d (.s 8 ws)]) k i z:=by
 obtain⟨N,t3,t⟩:=h;refine⟨N+100,fun H o hv hw h3 _ m => ?_⟩;rcases bL hk with rfl|rfl|rfl|rfl|rfl
 ·exact QL H iv iw i v0 v1 v2 v3 v4 v5 v6 w0 w1 w2 w3 w4 w5 w6 vs ws x y z hv hw hx hy 108 110 111 115 117 118 119 121 113 N (t (by decide)) m
 ·exact QK H iv iw i v0 v1 v2 v3 v4 v5 v6 w0 w1 w2 w3 w4 w5 w6 vs ws x y z hv hw hx hy 122 123 124 127 195 126 128 131 (o+3) (o+2) 125 N (t (by decide)) m
 ·exact YE H iv iw i v0 v1 v2 v3 v4 v5 v6 w0 w1 w2 w3 w4 w5 w6 vs ws x y z hv hw hx hy 133 110 111 115 195 136 119 138 (o+3) (o+2) (o+2) N (BF o) (h3 rfl) (QN o) (fun B hB m=>t3 rfl B (o+2) o hB m) m
 ·exact QK H iv iw i v0 v1 v2 v3 v4 v5 v6 w0 w1 w2 w3 w4 w5 w6 vs ws x y z hv hw hx hy 139 140 141 143 195 118 144 147 (o+3) (o+2) 142 N (t (by decide)) m
 ·exact QL H iv iw i v0 v1 v2 v3 v4 v5 v6 w0 w1 w2 w3 w4 w5 w6 vs ws x y z hv hw hx hy 149 151 152 156 158 118 160 163 154 N (t (by decide)) m
end steps
theorem QQ {k:Int}(hk:single k=true)(v w x y z:W)(hv:Ca E1 41 [.d (bG k []),.d v.d] (.d x.d,none))(hw:Ca E1 41 [.d (bG k []),.d w.d] (.d y.d,none))(h:KD k x y z):Ca E1 14 [.d (bG k []),.d v.d,.d w.d] (.d z.d,none):=by
 obtain⟨N3,t3,t⟩:=h;obtain⟨N1,t1⟩:=hv.any;obtain⟨N2,t2⟩:=hw.any;obtain⟨N4,t42⟩:=(Kz hk).any;obtain⟨K,hK⟩:∃ K,K=N1+N2+N4+N3+500:=⟨_,rfl⟩
 replace t1:=t1 K (by omega);replace t2:=t2 K (by omega);replace t42:=t42 K (by omega);replace t:=fun h m=>dM (t h 0) (show N3+0<=K+m by omega)
 replace t3:=fun h B j o hB m=>dM (t3 h B j o hB 0) (show N3+0<=K+m by omega)
 have t31:=fun m=>dM (KA (sv1 hk) 0) (show 0+500<=K+m by omega)
 obtain⟨vs,vl1,vl2,vc,vb,vu,vp,vps,ev⟩:=v.aW;obtain⟨ws,wl1,wl2,wc,wb,wu,wp,wps,ew⟩:=w.aW;obtain⟨xs,xl1,xl2,xc,xb,xu,xp,xps,ex⟩:=x.aW;obtain⟨ys,YC,YD,yc,yb,yu,yp,yps,ey⟩:=y.aW;obtain⟨zs,EY,EZ,zc,zb,zu,zp,Gh,ez⟩:=z.aW;simp only[ev,ew,ex,ey,ez]at t1 t2 t t3 ⊢;clear ev ew ex ey ez hK hv hw;refine Ca.bO (n:=K+100) ?_;rw[aA rfl (k14:E1.fn _=_) rfl];unfold wD bG at*;simp only[show LK .i64 []=[] from rfl]at*;rcases bL hk with rfl|rfl|rfl|rfl|rfl
 ·replace t:=t (by decide);simp[KC,uK,pI,BB]at t42 t;simp -implicitDefEqProofs[f14,t31,t1,t2,t42,t]
 ·replace t:=t (by decide);simp[KC,uK,sG,nE,pJ]at t42 t;simp -implicitDefEqProofs[f14,t31,t1,t2,t42,t,FV.shift,FV.iE,ae.shift]
 ·replace t3:=t3 rfl [.box [.d (.v (.int .i64 3)),.d (.s 1 [])],.box [.d (.v (.bool xs)),.d (.s 1 xl1),.d (.s 1 xl2),.d (.v (.int .i64 xc)),.d (.v (.bool xb)),.d (.v (.int .u64 xu)),.d (.s 6 xp),.d (.s 8 xps)],.box [.d (.v (.bool ys)),.d (.s 1 YC),.d (.s 1 YD),.d (.v (.int .i64 yc)),.d (.v (.bool yb)),.d (.v (.int .u64 yu)),.d (.s 6 yp),.d (.s 8 yps)],dQ (.d (.n 8)),BF 4,BF 4,BF 4,.box [.d (.fn 111)]] 6 4 rfl;unfold BF dQ at t3;simp[uK,sH,nG,pK]at t42;simp -implicitDefEqProofs[f14,t31,t1,t2,t42,t3,FV.az,FV.aN,FV.shift,FV.iE,ae.shift,ae.az]
 all_goals
  replace t:=t (by decide);simp[KC,uK,sK,nH,pM,pG]at t42 t;simp -implicitDefEqProofs[f14,t31,t1,t2,t42,t,FV.shift,FV.iE,ae.shift]
def Gj (xs:List W):ae:=.box [.d (.v (.bool false)),.d (.s 1 []),.d (.s 1 []),.d (.v (.int .i64 0)),.d (.v (.bool false)),.d (.v (.int .u64 0)),.d (.s 6 []),.d (.s 8 (W.ds xs))]
theorem Gl (xs:List W)(n:Nat):ae.az n (Gj xs)=Gj xs:=by simp[Gj,ae.az,FV.aN,FV.az]
theorem YG {ps:List Int}(h:aQ 6 ps=true):ps.length<=3/\2<=ps.length/\∀ k ∈ ps,single k=true:=by
 unfold aQ at h;rw[if_neg (by simp)]at h;simp only[Bool.and_eq_true,decide_eq_true_eq,List.all_eq_true]at h;exact⟨h.1.2,h.1.1,h.2⟩
theorem QR {ps:List Int}(hv:aQ 6 ps=true)(v w:W)(xs ys zs:List W)(lx:xs.length=ps.length)(ly:ys.length=ps.length)(lz:zs.length=ps.length)
  (h1:Ca E1 41 [.d (bG 6 ps),.d v.d] (.d (gu xs).d,none)) (h2:Ca E1 41 [.d (bG 6 ps),.d w.d] (.d (gu ys).d,none))
  (h:∀ (i:Nat) (k:Int) (x y z:W),ps[i]?=some k->xs[i]?=some x->ys[i]?=some y->zs[i]?=some z->KD k x y z):Ca E1 14 [.d (bG 6 ps),.d v.d,.d w.d] (.d (gu zs).d,none):=by
 obtain⟨a1,a2,a3⟩:=YG hv;obtain⟨N3,t43⟩:=QP 45 1 2 6 ps [.box [.d (.v (.int .i64 6)),.d (.s 1 (LK .i64 ps))],Gj xs,Gj ys,dQ (.d (.n 8))] (Gj xs) (Gj ys) zs a3 a1 lz rfl rfl (Gl xs) (Gl ys) (fun i k z hk hz=>by
  have hi:i<ps.length:=(aT hk)
  have hx:xs[i]?=some (xs[i]'(by omega)):=List.getElem?_eq_getElem (show i<xs.length by omega);have hy:ys[i]?=some (ys[i]'(by omega)):=List.getElem?_eq_getElem (show i<ys.length by omega);exact MF (a3 k (List.mem_of_getElem? hk)) (h i k _ _ z hk hx hy hz) (by rw[W.fA,List.getElem?_map,hx];rfl) (by rw[W.fA,List.getElem?_map,hy];rfl))
 obtain⟨N1,t1⟩:=h1.any;obtain⟨N2,t2⟩:=h2.any;obtain⟨N,hN⟩:∃ N,N=N1+N2+N3+500:=⟨_,rfl⟩
 replace t1:=t1 N (by omega);replace t2:=t2 N (by omega);replace t43:=fun m=>dM (t43 0) (show N3+0<=N+m by omega)
 have t31:=fun m=>dM (KA hv 0) (show 0+500<=N+m by omega)
 obtain⟨vs,vl1,vl2,vc,vb,vu,vp,vps,ev⟩:=v.aW;obtain⟨ws,wl1,wl2,wc,wb,wu,wp,wps,ew⟩:=w.aW;have ex:∀ zs:List W,(gu zs).d=.a [.v (.bool false),.s 1 [],.s 1 [],.v (.int .i64 0),.v (.bool false),.v (.int .u64 0),.s 6 [],.s 8 (W.ds zs)]:=fun _=>rfl
 rw[ev,ex]at t1;rw[ew,ex]at t2;rw[ex]at t43;rw[ev,ew,ex];unfold wD bG Gj dQ at*;clear ev ew ex hN h h1 h2 a1 a2 a3 lx ly lz hv;refine Ca.bO (n:=N+100) ?_;rw[aA rfl (k14:E1.fn _=_) rfl];generalize W.ds xs=x1,W.ds ys=x2,W.ds zs=x3,LK .i64 ps=l1 at*;simp -implicitDefEqProofs[f14,t31,t1,t2,t43,FV.az,FV.aN,ae.az]
end
end Fi.S
namespace Fi.S
open Go Fi
set_option maxHeartbeats 8000000
def gD (k:Int):Sv:=if k=2 then .c true 0 else if k=4 then .s 0 else if k=5 then .p [] else .q 0
theorem QS {k:Int}(hk:single k=true)(S M:Nat)(hS:1<=S):(gD k).of k S M:=by
 rcases bL hk with rfl|rfl|rfl|rfl|rfl
 ·exact⟨.inl rfl,Nat.le_trans nL hS⟩
 ·exact⟨rfl,by decide,by decide,fun _=>rfl⟩
 ·exact⟨.inr ⟨rfl,by decide,by decide⟩,Nat.le_trans nL hS⟩
 ·exact⟨rfl,by decide,by decide⟩
 ·exact⟨rfl,PV.nil S,Nat.zero_le _⟩
theorem Gm {k:Int}(hk:single k=true){S M:Nat}(hS:S<=1000)(hM:(M+M)*(S+1)<=50000){x y:Sv}(hx:x.of k S M)(hy:y.of k S M):KD k x.w y.w (dS k x y).w:=by
 rcases bL hk with rfl|rfl|rfl|rfl|rfl
 ·cases x with
  | q x=>cases y with
   | q y =>
    obtain⟨N,t⟩:=(QE x y (by have:=hx.2;omega) (by have:=hy.2;omega)).get;exact⟨N,fun h=>absurd h (by decide),fun _=>t⟩
   | c j m=>exact absurd hy.1 (by decide)
   | s v=>exact absurd hy.1 (by decide)
   | p b=>exact absurd hy.1 (by decide)
  | c i n=>exact absurd hx.1 (by decide)
  | s u=>exact absurd hx.1 (by decide)
  | p a=>exact absurd hx.1 (by decide)
 ·cases x with
  | c i n=>cases y with
   | c j m =>
    obtain⟨N,t⟩:=(QG i j n m).get;exact⟨N,fun h=>absurd h (by decide),fun _=>t⟩
   | q y=>rcases hy.1 with h | h;exact absurd h (by decide);exact absurd h.1 (by decide)
   | s v=>exact absurd hy.1 (by decide)
   | p b=>exact absurd hy.1 (by decide)
  | q x=>rcases hx.1 with h | h;exact absurd h (by decide);exact absurd h.1 (by decide)
  | s u=>exact absurd hx.1 (by decide)
  | p a=>exact absurd hx.1 (by decide)
 ·cases x with
  | q x=>cases y with
   | q y =>
    obtain⟨N,t⟩:=Mx x y (by have:=hx.2;omega) (by have:=hy.2;omega);exact⟨N,fun _ B j o hB m=>t B j _ _ _ _ _ _ _ _ hB m,fun h=>absurd rfl h⟩
   | c j m=>exact absurd hy.1 (by decide)
   | s v=>exact absurd hy.1 (by decide)
   | p b=>exact absurd hy.1 (by decide)
  | c i n=>exact absurd hx.1 (by decide)
  | s u=>exact absurd hx.1 (by decide)
  | p a=>exact absurd hx.1 (by decide)
 ·cases x with
  | s u=>cases y with
   | s v =>
    obtain⟨N,t⟩:=(QH u v).get;exact⟨N,fun h=>absurd h (by decide),fun _=>t⟩
   | q y=>rcases hy.1 with h | h;exact absurd h (by decide);exact absurd h.1 (by decide)
   | c j m=>exact absurd hy.1 (by decide)
   | p b=>exact absurd hy.1 (by decide)
  | q x=>rcases hx.1 with h | h;exact absurd h (by decide);exact absurd h.1 (by decide)
  | c i n=>exact absurd hx.1 (by decide)
  | p a=>exact absurd hx.1 (by decide)
 ·cases x with
  | p a=>cases y with
   | p b =>
    have h1:(a++b).length*(S+1)<=50000:=by
     have:=hx.2.2;have:=hy.2.2;refine Nat.le_trans (Nat.mul_le_mul_right _ ?_) hM;rw[List.length_append];omega
    obtain⟨N,t⟩:=(QI hx.2.1 hy.2.1 hS h1).get;exact⟨N,fun h=>absurd h (by decide),fun _=>t⟩
   | q y=>rcases hy.1 with h | h;exact absurd h (by decide);exact absurd h.1 (by decide)
   | c j m=>exact absurd hy.1 (by decide)
   | s v=>exact absurd hy.1 (by decide)
  | q x=>rcases hx.1 with h | h;exact absurd h (by decide);exact absurd h.1 (by decide)
  | c i n=>exact absurd hx.1 (by decide)
  | s u=>exact absurd hx.1 (by decide)
inductive W.Sm (S:Nat):W->Prop
 | mk {s:Bool} {a b:List Nat} {c:Int} {i:Bool} {u:Int} {p:List Mo} {ps:List W} (ha:bK a) (hb:bK b) (la:a.length<=S) (lb:b.length<=S) (hp:∀ m ∈ p,bK m.a/\bK m.b/\m.a.length<=S/\m.b.length<=S) (hu:zL u)
   (h:∀ w ∈ ps,W.Sm S w):W.Sm S (.mk s a b c i u p ps)
def W.QT:W->List Mo
 | .mk _ _ _ _ _ _ p _=>p
theorem qY {a b:Int}:(a==b)=true↔a=b:=by simp
theorem QU {k:Int}(hk:single k=true){S M:Nat}(hS:1<=S){w:W}(hw:w.Sm S)(hM:w.QT.length<=M)(h:dJ k w=true):∃ x:Sv,w=x.w/\x.of k S M:=by
 obtain⟨s,a,b,c,i,u,p,ps⟩:=w;cases hw with
 | mk ha hb la lb hp hu hps =>
  rcases bL hk with rfl|rfl|rfl|rfl|rfl
  ·simp only[dJ,if_true,Bool.and_eq_true,Bool.not_eq_true',qY,List.isEmpty_iff]at h;obtain⟨h1,⟨⟨⟨rfl,rfl⟩,rfl⟩,rfl⟩,rfl⟩:=h;obtain⟨e1,e2,e3⟩:=YA ha hb h1;have hz:=kZ ha hb S la lb hS h1;generalize bJ s a b=x at*;subst e1 e2 e3;exact⟨.q x,rfl,.inl rfl,hz⟩
  ·simp only[dJ,show ¬ (2:Int)=1 by decide,if_false,if_true,Bool.and_eq_true,Bool.or_eq_true,Bool.not_eq_true',qY,List.isEmpty_iff,decide_eq_true_eq,Eb]at h;obtain⟨⟨⟨h1,h2⟩,h3⟩,⟨⟨⟨rfl,rfl,rfl⟩,rfl⟩,rfl⟩,rfl⟩:=h;exact⟨.c i c,rfl,rfl,h1,h2,fun hi=>by rcases h3 with h3|h3;rw[hi]at h3;cases h3;exact h3⟩
  ·simp only[dJ,show ¬ (3:Int)=1 by decide,show ¬ (3:Int)=2 by decide,if_false,if_true,Bool.and_eq_true,Bool.not_eq_true',qY,List.isEmpty_iff,decide_eq_true_eq,decide_eq_false_iff_not]at h;obtain⟨⟨⟨h1,⟨⟨⟨rfl,rfl⟩,rfl⟩,rfl⟩,rfl⟩,h2⟩,h3⟩:=h;obtain⟨e1,e2,e3⟩:=YA ha hb h1;have hz:=kZ ha hb S la lb hS h1;generalize bJ s a b=x at*;subst e1 e2 e3;refine⟨.q x,rfl,.inr ⟨rfl,?_,by grind⟩,hz⟩;rw[Int.sign_nonneg_iff]at h2;exact Rat.num_nonneg.1 h2
  ·simp only[dJ,show ¬ (4:Int)=1 by decide,show ¬ (4:Int)=2 by decide,show ¬ (4:Int)=3 by decide,if_false,if_true,Bool.and_eq_true,Bool.not_eq_true',qY,List.isEmpty_iff,Eb]at h;obtain⟨⟨⟨⟨⟨rfl,rfl,rfl⟩,rfl⟩,rfl⟩,rfl⟩,rfl⟩:=h;exact⟨.s u,rfl,rfl,hu⟩
  ·simp only[dJ,show ¬ (5:Int)=1 by decide,show ¬ (5:Int)=2 by decide,show ¬ (5:Int)=3 by decide,show ¬ (5:Int)=4 by decide,if_false,Bool.and_eq_true,Bool.not_eq_true',qY,List.isEmpty_iff,Eb]at h;obtain⟨h1,⟨⟨⟨⟨rfl,rfl,rfl⟩,rfl⟩,rfl⟩,rfl⟩,rfl⟩:=h;obtain⟨es,rfl,hpv,_⟩:=Ky hp hS h1;exact⟨.p es,rfl,rfl,hpv,by simpa[W.QT] using hM⟩
theorem Ee:q0 false [] []=true:=rfl
theorem QV {k:Int}{S M:Nat}{x:Sv}(h:x.of k S M):dJ k x.w=true:=by
 cases x with
 | q x =>
  obtain⟨h1,h2⟩:=h;have hv:=qL x;rcases h1 with rfl|⟨rfl,h0,h1⟩
  ·simp[dJ,Sv.w,hv]
  ·have e:bJ (qs x) (qn x) (qd x)=x:=Ph x;have h3:(0:Int)<=x.num.sign:=Int.sign_nonneg_iff.2 (Rat.num_nonneg.2 h0);have h4:¬ (1:Rat)<x:=by grind
   simp[dJ,Sv.w,hv,e,h3,h4]
 | c i n =>
  obtain⟨rfl,h1,h2,h3⟩:=h;cases i with
  | false=>simp[dJ,Sv.w,h1,h2,Ee]
  | true =>
   have:=h3 rfl;subst this;simp[dJ,Sv.w,Ee]
 | s u =>
  obtain⟨rfl,_⟩:=h;simp[dJ,Sv.w,Ee]
 | p l =>
  obtain⟨rfl,h1,_⟩:=h;have:=yH h1 (q:=none) (fun m hm=>by cases hm);simp[dJ,Sv.w,Ee,this]
theorem QW {k:Int}{S M:Nat}{x:Sv}(h:x.of k S M)(hS:S<=1000):x.w.OK:=by
 have hl:bK []:=fun _ h=>(by cases h)
 have hp0:Po []:=⟨fun _ h=>(by cases h),by simp⟩
 have hw0:∀ w ∈ ([]:List W),w.OK:=fun _ h=>(by cases h)
 cases x with
 | q x =>
  have h1:(qn x).length<=qz x:=Nat.le_max_left _ _;have h2:(qd x).length<=qz x:=by
   unfold qd;split
   ·simp
   ·exact Nat.le_max_right _ _
  have:=h.2;exact .mk (DK x) (DL x) (by omega) (by omega) hp0 (by simp) hw0
 | c i n=>exact .mk hl hl (by simp) (by simp) hp0 (by simp) hw0
 | s u=>exact .mk hl hl (by simp) (by simp) hp0 (by simp) hw0
 | p l=>exact .mk hl hl (by simp) (by simp) (Qr h.2.1 hS) (by simp) hw0
theorem Vd (u v:Int):zL (Fe .u64 u v):=by
 have h:=Go.wf_wrap .u64 ((BitVec.ofInt 64 u ||| BitVec.ofInt 64 v).toNat:Int);simp only[Lit.wf,Bool.and_eq_true,decide_eq_true_eq]at h;have e1:IntKind.min .u64=0:=by rfl
 have e2:IntKind.max .u64=18446744073709551615:=by rfl
 rw[e1,e2]at h;have e3:Fe .u64 u v=IntKind.wrap .u64 ((BitVec.ofInt 64 u ||| BitVec.ofInt 64 v).toNat:Int):=vU ..;rw[e3];unfold zL;omega
end Fi.S
namespace Fi.S
open Go Fi
set_option maxHeartbeats 8000000
theorem Ef {k:Int}{ps:List Int}(hl:ps.length<=1000000){w:W}(hw:w.OK)(h:bM k ps w=true):Ca E1 41 [.d (bG k ps),.d w.d] (.d w.d,none):=by
 have t0:=zK k ps w hl hw;rw[h]at t0;obtain⟨N,t⟩:=(Ca.iP t0).get;obtain⟨vs,vl1,vl2,vc,vb,vu,vp,vps,ev⟩:=w.aW;rw[ev]at t ⊢;refine Ca.bO (n:=N+60) ?_;rw[aA rfl (k41:E1.fn _=_) rfl];unfold wD bG at*;generalize LK .i64 ps=l1 at*;clear ev t0;simp -implicitDefEqProofs[f41,t]
end Fi.S
