import Derived.Test.YtkekcmgkpdkieaaGreatDoorCL
set_option linter.unusedVariables false
set_option linter.unusedSimpArgs false
noncomputable section
namespace Fi.S
open Go Fi
set_option maxHeartbeats 8000000
inductive Sv where
 | q (x:Rat)
 | c (i:Bool) (n:Int)
 | s (u:Int)
 | p (l:List aZ)
def Sv.w:Sv->W
 | .q x=>.mk (qs x) (qn x) (qd x) 0 false 0 [] []
 | .c i n=>.mk false [] [] n i 0 [] []
 | .s u=>.mk false [] [] 0 false u [] []
 | .p l=>.mk false [] [] 0 false 0 (l.map uO) []
def Sv.of (k:Int)(S M:Nat):Sv->Prop
 | .q x=>(k=1\/(k=3/\0<=x/\x<=1))/\qz x<=S
 | .c i n=>k=2/\0<=n/\n<=1099511627776/\(i=true->n=0)
 | .s u=>k=4/\Ah u
 | .p l=>k=5/\PV S l/\l.length<=M
theorem Sv.of.mono {k:Int}{S T M M':Nat}{x:Sv}(h:x.of k S M)(hST:S<=T)(hM:M<=M'):x.of k T M':=by
 cases x with
 | q x=>exact⟨h.1,Qc2 h.2 hST⟩
 | c i n=>exact h
 | s u=>exact h
 | p l=>exact⟨h.1,h.2.1.mono hST,Qc2 h.2.2 hM⟩
end Fi.S
namespace Fi.S
open Go Fi
set_option maxHeartbeats 8000000
def nA (i:Bool)(n:Int)(j:Bool)(m:Int):Bool := !i&&(j||decide (n<m))
noncomputable def dB (k:Int):Sv->Sv->Sv
 | .q x,.q y=>if k=3 then(if x<y then .q y else .q x) else .q (x+y)
 | .c i n,.c j m=>if nA j m i n then .c j m else .c i n
 | .s u,.s v=>.s (Bj .u64 u v)
 | .p a,.p b=>.p (gu a b)
 | x,_=>x
noncomputable def dm:Sv->Sv->Sv
 | .q x,.q y=>.q (x*y)
 | .c i n,.c j m=>if i||(j||decide (1099511627776<n+m)) then .c true 0 else .c false (n+m)
 | .s u,.s v=>.s (nP .u64 u v)
 | .p a,.p b=>.p (iH a b)
 | x,_=>x
theorem UL (x y:Rat)(hx:qz x<=100000)(hy:qz y<=100000):Ca E1 113 [.d (Sv.q x).w.d,.d (Sv.q y).w.d] (.d (Sv.q (x+y)).w.d,none):=by
 obtain⟨N,t⟩:=(Ca.fP (Gn x y hx hy)).get;refine Ca.bO (n:=N+60) ?_;rw[av rfl (k113:E1.fn _=_) rfl];generalize x+y=z at*;simp only[Sv.w,W.d,W.ds,PD,qD,raw,LD,Qc0]at*;generalize qs x=s1,qs y=s2,qs z=s3,LL (qn x)=x1,LL (qd x)=x2,LL (qn y)=y1,LL (qd y)=y2,LL (qn z)=z1,LL (qd z)=z2 at*;simp -implicitDefEqProofs[f113,t]
theorem UM (i j:Bool)(n m:Int):Ca E1 126 [.d (Sv.c i n).w.d,.d (Sv.c j m).w.d] (.d (.v (.bool (nA i n j m))),none):=by
 refine Ca.bO (n:=60) ?_;rw[av rfl (k126:E1.fn _=_) rfl];simp only[Sv.w,W.d,W.ds,PD,LD,LL,Qc0,nA]at*;cases i<;>cases j<;>by_cases h:n<m<;>simp -implicitDefEqProofs[f126,h]
theorem UN (i j:Bool)(n m:Int):Ca E1 125 [.d (Sv.c i n).w.d,.d (Sv.c j m).w.d] (.d (dB 2 (.c i n) (.c j m)).w.d,none):=by
 obtain⟨N,t⟩:=(UM j i m n).get;refine Ca.bO (n:=N+60) ?_;rw[av rfl (k125:E1.fn _=_) rfl];have e:dB 2 (.c i n) (.c j m)=if nA j m i n then .c j m else .c i n:=rfl
 rw[e];clear e;generalize nA j m i n=b at*;cases b
 ·simp only[Sv.w,W.d,W.ds,PD,LD,LL,Qc0,Qi0,if_false]at*;simp -implicitDefEqProofs[f125,t]
 ·simp only[Sv.w,W.d,W.ds,PD,LD,LL,Qc0,if_true]at*;simp -implicitDefEqProofs[f125,t]
theorem UO (u v:Int):Ca E1 142 [.d (Sv.s u).w.d,.d (Sv.s v).w.d] (.d (Sv.s (Bj .u64 u v)).w.d,none):=by
 refine Ca.bO (n:=60) ?_;rw[av rfl (k142:E1.fn _=_) rfl];simp -implicitDefEqProofs[f142,Sv.w,W.d,W.ds,PD,LD,LL]
theorem UQ (l:List aZ):(Sv.p l).w.d=.a [.v (.bool false),.s 1 [],.s 1 [],.v (.int .i64 0),.v (.bool false),.v (.int .u64 0),aT l,.s 8 []]:=by
 simp only[Sv.w,W.d,W.ds,LD,LL,Qc0,Gw]
theorem UR {S:Nat}{a b:List aZ}(ha:PV S a)(hb:PV S b)(hS:S<=1000)(hm:(a++b).length*(S+1)<=50000):Ca E1 154 [.d (Sv.p a).w.d,.d (Sv.p b).w.d] (.d (Sv.p (gu a b)).w.d,none):=by
 obtain⟨N,t⟩:=(YM ha hb hS hm).get;refine Ca.bO (n:=N+60) ?_;rw[av rfl (k154:E1.fn _=_) rfl];simp only[UQ];generalize gu a b=c at*;unfold aT at*;generalize (a.map fun p=>qC p.1 p.2)=x1,(b.map fun p=>qC p.1 p.2)=x2,(c.map fun p=>qC p.1 p.2)=x3 at*;simp -implicitDefEqProofs[f154,t]
theorem UT (x:Rat):0<x.num↔0<x:=by
 have h:=@Rat.num_nonneg (-x);have e:(-x).num=-x.num:=by simp
 rw[e]at h;have h1:0<x.num↔¬ 0<=-x.num:=by omega
 have h2:0<x↔¬ 0<=-x:=by grind
 rw[h1,h2,h]
theorem Mr (x y:Rat)(hx:qz x<=100000)(hy:qz y<=100000):Ca E1 136 [.d (Sv.q x).w.d,.d (Sv.q y).w.d] (.d (.v (.bool (decide (y<x)))),none):=by
 obtain⟨N,t⟩:=(Ca.fP (zz x y hx hy)).get;refine Ca.bO (n:=N+60) ?_;rw[av rfl (k136:E1.fn _=_) rfl];have hs:decide ((0:Int)<(x-y).num.sign)=decide (y<x):=by
  rw[decide_eq_decide,Int.sign_pos_iff,UT];grind
 rw[<-hs];generalize (x-y).num.sign=z at*;simp only[Sv.w,W.d,W.ds,PD,qD,raw,LD,Qc0]at*;generalize qs x=s1,qs y=s2,LL (qn x)=x1,LL (qd x)=x2,LL (qn y)=y1,LL (qd y)=y2 at*;simp -implicitDefEqProofs[f136,t,LL]
theorem Qr (x y:Rat)(hx:qz x<=90000)(hy:qz y<=90000) :
  ∃ N,∀ (B:List ae) (j:Nat) (c0 c1 c2 c3 c4 c5 c7 c8:FV),B[j]?=some (.box [c0,c1,c2,c3,c4,c5,.d (.fn 136),c7,c8])->∀ k,CL E1 (N+k) 137 [.d (Sv.q x).w.d,.d (Sv.q y).w.d,.r (.old j) 0] B=some (.d (dB 3 (.q x) (.q y)).w.d,none):=by
 have hz:=jJ;have hxy:dB 3 (.q x) (.q y)=.q ((if x<y then y else x)+0):=by
  have e:dB 3 (.q x) (.q y)=if x<y then .q y else .q x:=rfl
  have e2:∀ z:Rat,z+0=z:=fun z=>Rat.add_zero z
  rw[e,e2];split<;>rfl
 rw[hxy];obtain⟨M,hM,t1,t2⟩:=((Mr y x omK omK).j ((Ca.fP (Gn (if x<y then y else x) 0 (by split<;>omega) omK)).any)).at 0;refine⟨M+100,fun B j c0 c1 c2 c3 c4 c5 c7 c8 hB k => ?_⟩;have hjl:j<B.length:=(bD hB)
 have Ol:∀ L,(B++L)[j]?=some (.box [c0,c1,c2,c3,c4,c5,.d (.fn 136),c7,c8]):=fun L=>by rw[Qa1 hjl];exact hB
 replace t1:=fun m=>t1 (k+m)
 replace t2:=fun m=>t2 (k+m)
 simp only[<-Qv2]at t1 t2;rw[show M+100+k=M+k+100 by omega];generalize M+k=m at*;rw[wP]at t2;rw[av rfl (k137:E1.fn _=_) rfl]
 by_cases h:x<y
 ·rw[if_pos h]at t2 ⊢;rw[decide_eq_true h]at t1;generalize y+0=z at*;simp only[Sv.w,W.d,W.ds,PD,qD,raw,LD,Qc0]at*;generalize qs x=s1,qs y=s2,qs z=s3,LL (qn x)=x1,LL (qd x)=x2,LL (qn y)=y1,LL (qd y)=y2,LL (qn z)=z1,LL (qd z)=z2 at*;simp -implicitDefEqProofs[f137,t1,t2,Ol,LL]
 ·rw[if_neg h]at t2 ⊢;rw[decide_eq_false h]at t1;generalize x+0=z at*;simp only[Sv.w,W.d,W.ds,PD,qD,raw,LD,Qc0]at*;generalize qs x=s1,qs y=s2,qs z=s3,LL (qn x)=x1,LL (qd x)=x2,LL (qn y)=y1,LL (qd y)=y2,LL (qn z)=z1,LL (qd z)=z2 at*;simp -implicitDefEqProofs[f137,t1,t2,Ol,LL]
section
def wD (s:Bool)(l1 l2:List D)(c:Int)(b:Bool)(u:Int)(p ps:List D):D:=.a [.v (.bool s),.s 1 l1,.s 1 l2,.v (.int .i64 c),.v (.bool b),.v (.int .u64 u),.s 6 p,.s 8 ps]
theorem W.aN (w:W):∃ s l1 l2 c b u p ps,w.d=wD s l1 l2 c b u p ps:=by
 obtain⟨s,a,b,c,i,u,p,ps⟩:=w;exact⟨s,LL a,LL b,c,i,u,p.map Mo.d,W.ds ps,rfl⟩
section parts
variable (H:List ae) (iv iw i:Nat) (v0 v1 v2 v3 v4 v5 v6 w0 w1 w2 w3 w4 w5 w6:FV) (vs ws:List D) (x y z:W)
theorem UU (hv:H[iv]?=some (.box [v0,v1,v2,v3,v4,v5,v6,.d (.s 8 vs)]))(hw:H[iw]?=some (.box [w0,w1,w2,w3,w4,w5,w6,.d (.s 8 ws)]))(hx:vs[i]?=some x.d)(hy:ws[i]?=some y.d)
  (c0 c1 c2 c4 c5 c6 c7 c8 a b:Nat) (g M:Nat) (t:∀ m,CL E1 (M+m) g [.d x.d,.d y.d] []=some (.d z.d,none)) (m:Nat) :
  CL E1 (M+100+m) 45 [.a [.d (.fn c0),.d (.fn c1),.d (.fn c2),.d (.fn g),.d (.fn c4),.f c5 [] [.r (.old a) 0],.d (.fn c6),.d (.fn c7),.f c8 [] [.r (.old b) 0]],.d (.v (.int .i64 i)),.r (.old iv) 0,.r (.old iw) 0] H=some (.d z.d,none):=by
 have hvl:iv<H.length:=(bD hv)
 have hwl:iw<H.length:=(bD hw)
 have gv:∀ L,(H++L)[iv]?=some (.box [v0,v1,v2,v3,v4,v5,v6,.d (.s 8 vs)]):=fun L=>by rw[Qa1 hvl];exact hv
 have gw:∀ L,(H++L)[iw]?=some (.box [w0,w1,w2,w3,w4,w5,w6,.d (.s 8 ws)]):=fun L=>by rw[Qa1 hwl];exact hw
 have i1:i<vs.length:=(bD hx)
 have i2:i<ws.length:=(bD hy)
 have hi0:(0:Int)<=(i:Int):=by omega
 obtain⟨xs,xl1,xl2,xc,xb,xu,xp,xps,ex⟩:=x.aN;obtain⟨ys,yl1,yl2,yc,yb,yu,yp,yps,ey⟩:=y.aN;obtain⟨zs,GA,GD,zc,zb,zu,zp,Ik,ez⟩:=z.aN;rw[ex]at hx t;rw[ey]at hy t;rw[ez]at t ⊢;replace t:=fun k=>t (m+k)
 simp only[<-Qv2]at t;rw[show M+100+m=M+m+100 by omega];generalize M+m=n at*;rw[av rfl (k45:E1.fn _=_) rfl];unfold wD at*;have j1:=idx hx;have j2:=idx hy;simp -implicitDefEqProofs[f45,t,gv,gw,i1,i2,hi0,j1,j2,hx,hy]
theorem UW (hv:H[iv]?=some (.box [v0,v1,v2,v3,v4,v5,v6,.d (.s 8 vs)]))(hw:H[iw]?=some (.box [w0,w1,w2,w3,w4,w5,w6,.d (.s 8 ws)]))(hx:vs[i]?=some x.d)(hy:ws[i]?=some y.d)
  (c0 c1 c2 c4 c5 c6 c7 c8:Nat) (g M:Nat) (t:∀ m,CL E1 (M+m) g [.d x.d,.d y.d] []=some (.d z.d,none)) (m:Nat) :
  CL E1 (M+100+m) 45 [.d (.a [.fn c0,.fn c1,.fn c2,.fn g,.fn c4,.fn c5,.fn c6,.fn c7,.fn c8]),.d (.v (.int .i64 i)),.r (.old iv) 0,.r (.old iw) 0] H=some (.d z.d,none):=by
 have hvl:iv<H.length:=(bD hv)
 have hwl:iw<H.length:=(bD hw)
 have gv:∀ L,(H++L)[iv]?=some (.box [v0,v1,v2,v3,v4,v5,v6,.d (.s 8 vs)]):=fun L=>by rw[Qa1 hvl];exact hv
 have gw:∀ L,(H++L)[iw]?=some (.box [w0,w1,w2,w3,w4,w5,w6,.d (.s 8 ws)]):=fun L=>by rw[Qa1 hwl];exact hw
 have i1:i<vs.length:=(bD hx)
 have i2:i<ws.length:=(bD hy)
 have hi0:(0:Int)<=(i:Int):=by omega
 obtain⟨xs,xl1,xl2,xc,xb,xu,xp,xps,ex⟩:=x.aN;obtain⟨ys,yl1,yl2,yc,yb,yu,yp,yps,ey⟩:=y.aN;obtain⟨zs,GA,GD,zc,zb,zu,zp,Ik,ez⟩:=z.aN;rw[ex]at hx t;rw[ey]at hy t;rw[ez]at t ⊢;replace t:=fun k=>t (m+k)
 simp only[<-Qv2]at t;rw[show M+100+m=M+m+100 by omega];generalize M+m=n at*;rw[av rfl (k45:E1.fn _=_) rfl];unfold wD at*;have j1:=idx hx;have j2:=idx hy;simp -implicitDefEqProofs[f45,t,gv,gw,i1,i2,hi0,j1,j2,hx,hy]
theorem aca (hv:H[iv]?=some (.box [v0,v1,v2,v3,v4,v5,v6,.d (.s 8 vs)]))(hw:H[iw]?=some (.box [w0,w1,w2,w3,w4,w5,w6,.d (.s 8 ws)]))(hx:vs[i]?=some x.d)(hy:ws[i]?=some y.d)
  (c0 c1 c2 c4 c5 c6 c7 c8 a b:Nat) (j M:Nat) (o:ae) (hj:H[j]?=some o) (ho:∀ n,ae.aA n o=o) (t:∀ B,B[j]?=some o->∀ m,CL E1 (M+m) 137 [.d x.d,.d y.d,.r (.old j) 0] B=some (.d z.d,none)) (m:Nat) :
  CL E1 (M+100+m) 45 [.a [.d (.fn c0),.d (.fn c1),.d (.fn c2),.f 137 [] [.r (.old j) 0],.d (.fn c4),.f c5 [] [.r (.old a) 0],.d (.fn c6),.d (.fn c7),.f c8 [] [.r (.old b) 0]],.d (.v (.int .i64 i)),.r (.old iv) 0,.r (.old iw) 0] H=some (.d z.d,none):=by
 have hvl:iv<H.length:=(bD hv)
 have hwl:iw<H.length:=(bD hw)
 have hjl:j<H.length:=(bD hj)
 have gv:∀ L,(H++L)[iv]?=some (.box [v0,v1,v2,v3,v4,v5,v6,.d (.s 8 vs)]):=fun L=>by rw[Qa1 hvl];exact hv
 have gw:∀ L,(H++L)[iw]?=some (.box [w0,w1,w2,w3,w4,w5,w6,.d (.s 8 ws)]):=fun L=>by rw[Qa1 hwl];exact hw
 have i1:i<vs.length:=(bD hx)
 have i2:i<ws.length:=(bD hy)
 have hi0:(0:Int)<=(i:Int):=by omega
 obtain⟨xs,xl1,xl2,xc,xb,xu,xp,xps,ex⟩:=x.aN;obtain⟨ys,yl1,yl2,yc,yb,yu,yp,yps,ey⟩:=y.aN;obtain⟨zs,GA,GD,zc,zb,zu,zp,Ik,ez⟩:=z.aN;rw[ex]at hx t;rw[ey]at hy t;rw[ez]at t ⊢;have gj:∀ L,(List.map (ae.aA H.length) H++L)[j]?=some o:=fun L=>by rw[Qa1 (by simpa using hjl),Qb1,hj];exact congrArg some (ho _)
 replace t:=fun L k=>t (List.map (ae.aA H.length) H++L) (gj L) (m+k)
 simp only[<-Qv2]at t;rw[show M+100+m=M+m+100 by omega];generalize M+m=n at*;rw[av rfl (k45:E1.fn _=_) rfl];unfold wD at*;have j1:=idx hx;have j2:=idx hy;simp -implicitDefEqProofs[f45,t,FV.aA,FV.aR,gv,gw,i1,i2,hi0,j1,j2,hx,hy]
end parts
end
def UX (k:Int)(o:Nat):FV :=
 if k=1 then rD else if k=5 then rC
 else if k=2 then .a [(.d (.fn 122)),(.d (.fn 123)),(.d (.fn 124)),(.d (.fn 125)),(.d (.fn 127)),(.f 195 [] [(.r (.old (o+3)) 0)]),(.d (.fn 126)),(.d (.fn 128)),(.f 131 [] [(.r (.old (o+2)) 0)])]
 else if k=3 then .a [(.d (.fn 133)),(.d (.fn 110)),(.d (.fn 111)),(.f 137 [] [(.r (.old (o+2)) 0)]),(.d (.fn 115)),(.f 195 [] [(.r (.old (o+3)) 0)]),(.d (.fn 136)),(.d (.fn 119)),(.f 138 [] [(.r (.old (o+2)) 0)])]
 else .a [(.d (.fn 139)),(.d (.fn 140)),(.d (.fn 141)),(.d (.fn 142)),(.d (.fn 143)),(.f 195 [] [(.r (.old (o+3)) 0)]),(.d (.fn 118)),(.d (.fn 144)),(.f 147 [] [(.r (.old (o+2)) 0)])]
def Es (o:Nat):ae:=.box [(.d (.fn 133)),(.d (.fn 110)),(.d (.fn 111)),(.f 137 [] [(.r (.old (o+2)) 0)]),(.d (.fn 115)),(.f 195 [] [(.r (.old (o+3)) 0)]),(.d (.fn 136)),(.d (.fn 119)),(.f 138 [] [(.r (.old (o+2)) 0)])]
theorem UY (o n:Nat):ae.aA n (Es o)=Es o:=by simp[Es,ae.aA,FV.aA,FV.aR]
def bn (px:FV):ae:=.box [.d (.v (.bool false)),.d (.n 1),.d (.n 1),.d (.v (.int .i64 0)),.d (.v (.bool false)),.d (.v (.int .u64 0)),.d (.n 6),px]
def jM (px:FV)(L:List ae)(zs:List D):Prop:=(px=.d (.n 8)/\zs=[])\/∃ j az,px=.ls (.loc j) az 8 0 zs.length/\L[j]?=some (.row az 8 zs)
def YZ:aG:=f43.body.r.r.l.r.bl.lp
def Ms (g iv iw:Nat)(ps:List Int)(i:Nat)(t:FV)(B L:List ae)(dt:Bool:=false):St :=
 {vars:=[.u,.f g [] [.r (.old iv) 0,.r (.old iw) 0],.u,.r (.loc 1) 0,.r (.loc 2) 0,.u,.u,.d (.s 1 (LK .i64 ps)),.d (.v (.int .i64 ps.length)),.d (.v (.int .i64 i)),t],base:=B,loc:=L,aP:=dt}
def Qt (k:Int):Nat:=if k=2 then 124 else if k=3 then 111 else 141
def GG (g iv iw:Nat)(vb wb:ae)(k:Int)(i:Nat)(z:W):Prop :=
 ∃ N,∀ (H:List ae) (o:Nat),H[iv]?=some vb->H[iw]?=some wb->(k=3->H[o+2]?=some (Es o))->(k≠1->k≠5->H[o+3]?=some (.box [.d (.fn (Qt k))]))->∀ m,CL E1 (N+m) g [UX k o,.d (.v (.int .i64 i)),.r (.old iv) 0,.r (.old iw) 0] H=some (.d z.d,none)
def wW (k:Int):FV × Option (List ae):=if k=1 then(rD,none) else if k=2 then(vg,some rE) else if k=3 then(vk,some rF) else if k=4 then(vz,some rG) else(rC,none)
theorem Ou {k:Int}(hk:single k=true):Ca E1 42 [.d (.v (.int .i64 k))] (wW k):=by
 rcases aO hk with rfl|rfl|rfl|rfl|rfl
 ·exact Ca.fP (Ca.of BO)
 ·exact Ca.fP (Ca.of BQ)
 ·exact Ca.fP (Ca.of BR)
 ·exact Ca.fP (Ca.of BS)
 ·exact Ca.fP (Ca.of BP)
def Mt (r:Nat->Ref)(k:Int)(o:Nat):List FV:=if k=2 then [(.d (.fn 122)),(.d (.fn 123)),(.d (.fn 124)),(.d (.fn 125)),(.d (.fn 127)),(.f 195 [] [(.r (r (o+3)) 0)]),(.d (.fn 126)),(.d (.fn 128)),(.f 131 [] [(.r (r (o+2)) 0)])] else if k=3 then [(.d (.fn 133)),(.d (.fn 110)),(.d (.fn 111)),(.f 137 [] [(.r (r (o+2)) 0)]),(.d (.fn 115)),(.f 195 [] [(.r (r (o+3)) 0)]),(.d (.fn 136)),(.d (.fn 119)),(.f 138 [] [(.r (r (o+2)) 0)])] else [(.d (.fn 139)),(.d (.fn 140)),(.d (.fn 141)),(.d (.fn 142)),(.d (.fn 143)),(.f 195 [] [(.r (r (o+3)) 0)]),(.d (.fn 118)),(.d (.fn 144)),(.f 147 [] [(.r (r (o+2)) 0)])]
def Jy (r:Nat->Ref)(k:Int)(o:Nat):List ae:=[.box (Mt r k o),.box (Mt r k o),.box (Mt r k o),.box [.d (.fn (Qt k))]]
theorem UZ (g iv iw:Nat)(ps:List Int)(i:Nat)(k:Int)(B L:List ae)(dt:Bool)(vb wb:ae)(px:FV)(zs:List D)(z:W)(hk:ps[i]?=some k)(hs:single k=true)(hn:ps.length<=3)
  (hv:B[iv]?=some vb) (hw:B[iw]?=some wb) (ov:∀ n,ae.aA n vb=vb) (ow:∀ n,ae.aA n wb=wb) (ahS:GG g iv iw vb wb k i z) (h1:L[1]?=some (bn (.d (.n 8)))) (h2:L[2]?=some (bn px)) (ho:jM px L zs) (hz:zs.length<=3) :
  ∃ pJ L',Ex E1 YZ (Ms g iv iw ps i .u B L dt) (.norm,Ms g iv iw ps (i+1) .u B L' dt)/\L'[1]?=some (bn (.d (.n 8)))/\L'[2]?=some (bn pJ)/\jM pJ L' (zs++[z.d]):=by
 obtain⟨N,t⟩:=ahS;have hvl:iv<B.length:=(bD hv)
 have hwl:iw<B.length:=(bD hw)
 have Qu:1<L.length:=(bD h1)
 have Fh:2<L.length:=(bD h2)
 have hil:i<ps.length:=(bD hk)
 have n1:(LK .i64 ps).length=ps.length:=by simp[LK]
 have e1:(LK .i64 ps)[i]?=some (.v (.int .i64 k)):=by simp[LK,hk]
 have bz:ah .i64 ((i:Int)+1)=(i:Int)+1:=wrap_i64 omK;have hk1:((i+1:Nat):Int)=(i:Int)+1:=by omega
 have hk0:(0:Int)<=(i:Int):=by omega
 have hkc:(i:Int)<(ps.length:Int):=by omega
 obtain⟨U0,GA,GD,zc,zb,zu,zp,Ik,ez⟩:=z.aN;rw[ez]at t ⊢;unfold wD at*;have hvH:∀ L,(List.map (ae.aA B.length) B++L)[iv]?=some vb:=fun L=>by rw[Qa1 (by simpa using hvl),Qb1,hv];exact congrArg some (ov _)
 have hwH:∀ L,(List.map (ae.aA B.length) B++L)[iw]?=some wb:=fun L=>by rw[Qa1 (by simpa using hwl),Qb1,hw];exact congrArg some (ow _)
 obtain⟨K,t42⟩:=(Ou hs).any;obtain⟨M,hM⟩:∃ M,M=N+K:=⟨_,rfl⟩
 replace t42:=t42 M omK;have five:=aO hs;have g2:∀ X,(L++X)[2]?=some (bn px):=fun X=>by rw[Qa1 Fh];exact h2
 have Qv:∀ {j az} (hj:L[j]?=some (.row az 8 zs)),j<L.length/\j≠2/\j≠1/\(∀ X,(L++X)[j]?=some (.row az 8 zs))/\(∀ r,(L.set j r)[2]?=some (bn px))/\∀ r X,(L.set j r++X)[2]?=some (bn px):=fun {j az} hj=>by
  have hjl:j<L.length:=(bD hj)
  have hj2:j≠2:=fun h=>by
   subst h;rw[h2]at hj;cases hj
  have s2:∀ r,(L.set j r)[2]?=some (bn px):=fun r=>by rw[Qd0 hj2];exact h2
  refine⟨hjl,hj2,fun h => ?_,fun X=>by rw[Qa1 hjl];exact hj,s2,fun r X=>by rw[Qa1 (by simpa using Fh)];exact s2 r⟩;subst h;rw[h1]at hj;cases hj
 have m1:(zs.length+1)*128<=1099511627776:=by omega
 have m2:zs.length+1<=1099511627776:=by omega
 by_cases hp:k=1\/k=5
 ·replace t:=fun m=>eP (t (List.map (ae.aA B.length) B++List.map (ae.aA B.length) L) (B.length+L.length) (hvH _) (hwH _) (fun h=>by omega) (fun _ _=>by omega) 0) (show N+0<=M+m by omega)
  rcases ho with ⟨rfl,rfl⟩|⟨j,az,rfl,hj⟩
  ·refine⟨.ls (.loc L.length) 0 8 0 1,(L.set 2 (bn (.ls (.loc L.length) 0 8 0 1)))++[.row 0 8 [(.a [D.v (.bool U0),.s 1 GA,.s 1 GD,.v (.int .i64 zc),.v (.bool zb),.v (.int .u64 zu),.s 6 zp,.s 8 Ik])]],Ex.of (n:=M+100) ?_,?_,?_,.inr ⟨L.length,0,rfl,by simp⟩⟩
   ·unfold Ms;rw[hk1];clear hvH hwH ov ow hv hw h1 Qv;unfold bn at*;generalize LK .i64 ps=l1 at*;have i1:=idx e1;have i2:=idx h2;rcases hp with rfl|rfl
    all_goals
     simp[UX,wW,rD,Er,rC]at t42 t;simp -implicitDefEqProofs[YZ,f43,bz,hk0,hkc,hil,n1,i1,t42,t,FV.aA,FV.aR,most,dR,gK,checked,pK,GH,i2,Fh,g2]
   ·rw[Qa1 (by simpa using Qu),Qd0 omK];exact h1
   ·rw[Qa1 (by simpa using Fh)];exact Qf0 Fh
  ·obtain⟨hjl,hj2,hj1,gj,s2,s2X⟩:=Qv hj;refine⟨.ls (.loc j) (az+1) 8 0 (zs.length+1),((L.set j (.row (az+1) 8 (zs++[(.a [D.v (.bool U0),.s 1 GA,.s 1 GD,.v (.int .i64 zc),.v (.bool zb),.v (.int .u64 zu),.s 6 zp,.s 8 Ik])]))).set 2 (bn (.ls (.loc j) (az+1) 8 0 (zs.length+1)))),Ex.of (n:=M+100) ?_,?_,?_,.inr ⟨j,az+1,by simp,?_⟩⟩
   ·unfold Ms;rw[hk1];clear hvH hwH ov ow hv hw h1 Qv;unfold bn at*;generalize LK .i64 ps=l1 at*;have i1:=idx e1;have i2:=idx h2;have i3:=idx hj;have i4:∀ r (h:2<(L.set j r).length),(L.set j r)[2]=_:=fun r h=>idx (s2 r) h
    rcases hp with rfl|rfl
    all_goals
     simp[UX,wW,rD,Er,rC]at t42 t;simp -implicitDefEqProofs[YZ,f43,bz,hk0,hkc,hil,n1,i1,t42,t,FV.aA,FV.aR,most,dR,gK,checked,pK,GH,Ref.abs,i2,i3,i4,Fh,hjl,m1,m2]
   ·rw[Qd0 omK,Qd0 hj1];exact h1
   ·exact Qf0 (by simpa using Fh)
   ·rw[Qd0 (fun h=>hj2 h.symm)];exact Qf0 hjl
 ·replace t:=fun m=>eP (t (List.map (ae.aA B.length) B++(List.map (ae.aA B.length) L++Jy .old k (B.length+L.length))) (B.length+L.length) (hvH _) (hwH _) (fun h=>by subst h;rw[Qc1 (by simp;omega)];simp;rw[Qc1 (by simp;omega)];simp;rw[show B.length+L.length+2-B.length-L.length=2 by omega];rfl) (fun _ _=>by rw[Qc1 (by simp;omega)];simp;rw[Qc1 (by simp;omega)];simp;rw[show B.length+L.length+3-B.length-L.length=3 by omega];rfl) 0) (show N+0<=M+m by omega)
  have hp':k=2\/k=3\/k=4:=by omega
  rcases ho with ⟨rfl,rfl⟩|⟨j,az,rfl,hj⟩
  ·refine⟨.ls (.loc (L.length+4)) 0 8 0 1,(L.set 2 (bn (.ls (.loc (L.length+4)) 0 8 0 1)))++Jy .loc k L.length++[.row 0 8 [(.a [D.v (.bool U0),.s 1 GA,.s 1 GD,.v (.int .i64 zc),.v (.bool zb),.v (.int .u64 zu),.s 6 zp,.s 8 Ik])]],Ex.of (n:=M+100) ?_,?_,?_,.inr ⟨(L.length+4),0,rfl,by simp[Jy]⟩⟩
   ·unfold Ms;rw[hk1];clear hvH hwH ov ow hv hw h1 Qv;unfold bn at*;generalize LK .i64 ps=l1 at*;have i1:=idx e1;have i2:=idx h2;rcases hp' with rfl|rfl|rfl
    all_goals
     simp[UX,wW,vg,o9,rE,vk,o_,rF,vz,pE,rG,Jy,Mt,Qt]at t42 t;simp only[Qv2]at t;simp -implicitDefEqProofs[YZ,f43,bz,hk0,hkc,hil,n1,i1,t42,t,FV.aA,FV.aR,FV.shift,FV.jk,ae.shift,ae.aA,most,dR,gK,checked,pK,GH,i2,Fh,Jy,Mt,Qt]
   ·rw[Qo1,Qa1 (by simpa using Qu),Qd0 omK];exact h1
   ·rw[Qo1,Qa1 (by simpa using Fh)];exact Qf0 Fh
  ·obtain⟨hjl,hj2,hj1,gj,s2,s2X⟩:=Qv hj;refine⟨.ls (.loc j) (az+1) 8 0 (zs.length+1),((L.set j (.row (az+1) 8 (zs++[(.a [D.v (.bool U0),.s 1 GA,.s 1 GD,.v (.int .i64 zc),.v (.bool zb),.v (.int .u64 zu),.s 6 zp,.s 8 Ik])]))).set 2 (bn (.ls (.loc j) (az+1) 8 0 (zs.length+1))))++Jy .loc k L.length,Ex.of (n:=M+100) ?_,?_,?_,.inr ⟨j,az+1,by simp,?_⟩⟩
   ·unfold Ms;rw[hk1];clear hvH hwH ov ow hv hw h1 Qv;unfold bn at*;generalize LK .i64 ps=l1 at*;have i1:=idx e1;have i2:=idx h2;have i3:=idx hj;have i4:∀ r (h:2<(L.set j r).length),(L.set j r)[2]=_:=fun r h=>idx (s2 r) h
    rcases hp' with rfl|rfl|rfl
    all_goals
     simp[UX,wW,vg,o9,rE,vk,o_,rF,vz,pE,rG,Jy,Mt,Qt]at t42 t;simp only[Qv2]at t;simp -implicitDefEqProofs[YZ,f43,bz,hk0,hkc,hil,n1,i1,t42,t,FV.aA,FV.aR,FV.shift,FV.jk,ae.shift,ae.aA,most,dR,gK,checked,pK,GH,Ref.abs,i2,i4,Fh,hjl,gj,m1,m2,Jy,Mt,Qt]
   ·rw[Qa1 (by simpa using Qu)];rw[Qd0 omK,Qd0 hj1];exact h1
   ·rw[Qa1 (by simpa using Fh)];exact Qf0 (by simpa using Fh)
   ·rw[Qa1 (by simpa using hjl)];rw[Qd0 (fun h=>hj2 h.symm)];exact Qf0 hjl
theorem pM {E:Env}{g:Nat}{F:ai}{args:List FV}{B:List ae}{o:Out}{st1:St}{r:FV × Option (List ae)}(hp:E.ja g=none)(hf:E.fn g=some F)(hl:args.length=F.np)
  (h:Ex E F.body {vars:=args++List.replicate (F.nv-F.np) .u,base:=B,loc:=[],aP:=false} (o,st1)) (ho:∀ id,o≠.exit id) (hr:finish F st1=some r):∃ N,∀ m,CL E (N+m) g args B=some r:=by
 obtain⟨n0,h⟩:=h;refine⟨n0,fun m => ?_⟩;rw[jH,GI hp hf hl,h (n0+m) omK];cases o with
 | exit id=>exact absurd rfl (ho id)
 | norm=>exact hr
 | ret=>exact hr
def fQ (zs:List W):W:=.mk false [] [] 0 false 0 [] zs
theorem Y0 (g iv iw:Nat)(ps:List Int)(B:List ae)(vb wb:ae)(zs:List W)(hs:∀ k ∈ ps,single k=true)(hn:ps.length<=3)(hz:zs.length=ps.length)
  (hv:B[iv]?=some vb) (hw:B[iw]?=some wb) (ov:∀ n,ae.aA n vb=vb) (ow:∀ n,ae.aA n wb=wb) (hst:∀ i k z,ps[i]?=some k->zs[i]?=some z->GG g iv iw vb wb k i z)
  (L:List ae) (h1:L[1]?=some (bn (.d (.n 8)))) (h2:L[2]?=some (bn (.d (.n 8)))) :
  ∃ pJ L',Ex E1 (.loop YZ) (Ms g iv iw ps 0 .u B L) (.exit 0,Ms g iv iw ps ps.length (.d (.v (.bool false))) B L')/\L'[1]?=some (bn (.d (.n 8)))/\L'[2]?=some (bn pJ)/\jM pJ L' (W.ds zs):=by
 obtain⟨r,hx,pJ,L',rfl,h5,h3,h4⟩:=Ex.inv (E:=E1) (b:=YZ) (α:=Nat × FV × List ae) (S:=fun a=>Ms g iv iw ps a.1 .u B a.2.2) (fun a=>ps.length-a.1)
  (fun a=>a.1<=ps.length/\a.2.2[1]?=some (bn (.d (.n 8)))/\a.2.2[2]?=some (bn a.2.1)/\jM a.2.1 a.2.2 (W.ds (zs.take a.1)))
  (fun r=>∃ pJ L',r=(.exit 0,Ms g iv iw ps ps.length (.d (.v (.bool false))) B L')/\L'[1]?=some (bn (.d (.n 8)))/\L'[2]?=some (bn pJ)/\jM pJ L' (W.ds zs)) (by
   rintro⟨i,px,L⟩ ⟨q1,q0,q2,q3⟩;simp only at q1 q0 q2 q3
   by_cases hi:i<ps.length
   ·have hk:ps[i]?=some ps[i]:=Qa0 hi;have hzi:zs[i]?=some (zs[i]'(by omega)):=Qa0 omK;have hlen:(W.ds (zs.take i)).length<=3:=by simp[W.gX];omega
    obtain⟨pJ,L',g1,g0,g2,g3⟩:=UZ g iv iw ps i ps[i] B L false vb wb px _ _ hk (hs _ (Qi2 hi)) hn hv hw ov ow (hst i _ _ hk hzi) q0 q2 q3 hlen;refine .inl ⟨(i+1,pJ,L'),g1,by show ps.length-(i+1)<ps.length-i;omega,by show i+1<=_;omega,g0,g2,?_⟩;show jM pJ L' (W.ds (zs.take (i+1)));rw[Q01,hzi];have e:W.ds (zs.take i++[zs[i]'(by omega)])=W.ds (zs.take i)++[(zs[i]'(by omega)).d]:=by simp only[W.gX,Qq0,Qd2,Qc0]
    show jM pJ L' (W.ds (zs.take i++[zs[i]'(by omega)]));rw[e];exact g3
   ·obtain rfl:i=ps.length:=by omega
    rw[<-hz,Qn1]at q3;refine .inr ⟨_,Ex.of (n:=60) ?_,?_,px,L,rfl,q0,q2,q3⟩
    ·unfold Ms;generalize LK .i64 ps=l1,ps.length=n at*;simp -implicitDefEqProofs[YZ,f43]
    ·simp) (0,.d (.n 8),L) ⟨Q02 _,h1,h2,.inl ⟨rfl,rfl⟩⟩
 exact⟨pJ,L',hx,h5,h3,h4⟩
theorem U1 (g iv iw:Nat)(kk:Int)(ps:List Int)(B:List ae)(vb wb:ae)(zs:List W)(hs:∀ k ∈ ps,single k=true)(hn:ps.length<=3)(hz:zs.length=ps.length)
  (hv:B[iv]?=some vb) (hw:B[iw]?=some wb) (ov:∀ n,ae.aA n vb=vb) (ow:∀ n,ae.aA n wb=wb) (hst:∀ i k z,ps[i]?=some k->zs[i]?=some z->GG g iv iw vb wb k i z) :
  ∃ N,∀ m,CL E1 (N+m) 43 [.d (bA kk ps),.f g [] [.r (.old iv) 0,.r (.old iw) 0]] B=some (.d (fQ zs).d,none):=by
 have n1:(LK .i64 ps).length=ps.length:=by simp[LK]
 have hA:Ex E1 f43.body.l {vars:=[.d (bA kk ps),.f g [] [.r (.old iv) 0,.r (.old iw) 0],.u,.u,.u,.u,.u,.u,.u,.u,.u],base:=B,loc:=[],aP:=false}
   (.norm,{vars:=[.u,.f g [] [.r (.old iv) 0,.r (.old iw) 0],.r (.loc 0) 0,.r (.loc 1) 0,.u,.u,.u,.u,.u,.u,.u],base:=B,loc:=[.box [.d (.v (.int .i64 kk)),.d (.s 1 (LK .i64 ps))],bn (.d (.n 8))],aP:=false}):=by
  refine Ex.of (n:=60) ?_;unfold bA bn;generalize LK .i64 ps=l1 at*;simp -implicitDefEqProofs[f43]
 have hB:Ex E1 f43.body.r.l {vars:=[.u,.f g [] [.r (.old iv) 0,.r (.old iw) 0],.r (.loc 0) 0,.r (.loc 1) 0,.u,.u,.u,.u,.u,.u,.u],base:=B,loc:=[.box [.d (.v (.int .i64 kk)),.d (.s 1 (LK .i64 ps))],bn (.d (.n 8))],aP:=false}
   (.norm,{vars:=[.u,.f g [] [.r (.old iv) 0,.r (.old iw) 0],.r (.loc 0) 0,.r (.loc 1) 0,.r (.loc 2) 0,.u,.u,.u,.u,.u,.u],base:=B,loc:=[.box [.d (.v (.int .i64 kk)),.d (.s 1 (LK .i64 ps))],bn (.d (.n 8)),bn (.d (.n 8))],aP:=false}):=by
  refine Ex.of (n:=60) ?_;unfold bn;generalize LK .i64 ps=l1 at*;simp -implicitDefEqProofs[f43]
 have hC:Ex E1 f43.body.r.r.l.l {vars:=[.u,.f g [] [.r (.old iv) 0,.r (.old iw) 0],.r (.loc 0) 0,.r (.loc 1) 0,.r (.loc 2) 0,.u,.u,.u,.u,.u,.u],base:=B,loc:=[.box [.d (.v (.int .i64 kk)),.d (.s 1 (LK .i64 ps))],bn (.d (.n 8)),bn (.d (.n 8))],aP:=false}
   (.norm,Ms g iv iw ps 0 .u B [.box [.d (.v (.int .i64 kk)),.d (.s 1 (LK .i64 ps))],bn (.d (.n 8)),bn (.d (.n 8))]):=by
  refine Ex.of (n:=60) ?_;unfold Ms bn;generalize LK .i64 ps=l1 at*;simp -implicitDefEqProofs[f43,n1]
 obtain⟨px,L,hl,h1,h2,ho⟩:=Y0 g iv iw ps B vb wb zs hs hn hz hv hw ov ow hst [.box [.d (.v (.int .i64 kk)),.d (.s 1 (LK .i64 ps))],bn (.d (.n 8)),bn (.d (.n 8))] rfl rfl;have hds:(fQ zs).d=.a [.v (.bool false),.s 1 [],.s 1 [],.v (.int .i64 0),.v (.bool false),.v (.int .u64 0),.s 6 [],.s 8 (W.ds zs)]:=rfl;have Qu:1<L.length:=(bD h1)
 have hD:Ex E1 f43.body.r.r.r (Ms g iv iw ps ps.length (.d (.v (.bool false))) B L)
   (.ret,{vars:=[.u,.u,.u,.r (.loc 1) 0,.u,.u,.u,.u,.u,.u,.u],base:=B,loc:=L.set 1 (bn px),aP:=false}):=by
  refine Ex.of (n:=60) ?_;unfold Ms bn at*;generalize LK .i64 ps=l1 at*;have i1:=idx h1;have i2:=idx h2;rcases ho with ⟨rfl,_⟩|⟨j,az,rfl,_⟩
  ·simp -implicitDefEqProofs[f43,h1,h2,i1,i2,Qu]
  ·simp -implicitDefEqProofs[f43,h1,h2,i1,i2,Qu]
 refine pM (o:=.ret) (st1:={vars:=[.u,.u,.u,.r (.loc 1) 0,.u,.u,.u,.u,.u,.u,.u],base:=B,loc:=L.set 1 (bn px),aP:=false}) rfl (k43:E1.fn _=_) rfl ?_ (by intro id h;cases h) ?_
 ·show Ex E1 (.seq f43.body.l (.seq f43.body.r.l (.seq (.seq f43.body.r.r.l.l (.block 0 (.loop YZ))) f43.body.r.r.r))) _ _;exact hA.seq (hB.seq ((hC.seq hl.block).seq hD))
 ·rw[hds];unfold bn at*;have s1:∀ o,(L.set 1 o)[1]?=some o:=fun o=>Qf0 Qu
  rcases ho with ⟨rfl,e⟩|⟨j,az,rfl,hj⟩
  ·rw[e];simp -implicitDefEqProofs[f43,s1]
  ·have hj1:j≠1:=fun h=>by
    subst h;rw[h1]at hj;cases hj
   have sj:∀ o,(L.set 1 o)[j]?=some (.row az 8 (W.ds zs)):=fun o=>by rw[Qd0 (fun h=>hj1 h.symm)];exact hj
   have ev:ae.view az 8 0 (W.ds zs).length (.row az 8 (W.ds zs))=some (W.ds zs):=by simp[ae.view]
   generalize W.ds zs=es at*;simp -implicitDefEqProofs[f43,s1,sj,ev]
end Fi.S
namespace Fi.S
open Go Fi
set_option maxHeartbeats 8000000
theorem Ov {k:Int}{ps:List Int}(h:aJ k ps=true)(n:Nat):CL E1 (n+500) 31 [.d (bA k ps)] []=some (.d (.v (.bool true)),none):=by
 have:=(Ca.fP (Ca.bO (o8 0 k ps)))
 have t:=o8 n k ps;rw[h]at t;rw[jH]at t ⊢;exact rJ vE (wO vE _) t
theorem sv1 {k:Int}(hk:single k=true):aJ k []=true:=by
 rcases aO hk with rfl|rfl|rfl|rfl|rfl<;>rfl
section
section parts
variable (H:List ae) (iv iw i:Nat) (v0 v1 v2 v3 v4 v5 v6 w0 w1 w2 w3 w4 w5 w6:FV) (vs ws:List D) (x y z:W)
end parts
end
end Fi.S
namespace Fi.S
open Go Fi
set_option maxHeartbeats 8000000
section
def Ow (k:Int):Nat:=if k=1 then 113 else if k=2 then 125 else if k=4 then 142 else 154
def Ox (k:Int)(x y z:W):Prop :=
 ∃ N,(k=3->∀ (B:List ae) (j o:Nat),B[j]?=some (Es o)->∀ m,CL E1 (N+m) 137 [.d x.d,.d y.d,.r (.old j) 0] B=some (.d z.d,none)) /\
  (k≠3->∀ m,CL E1 (N+m) (Ow k) [.d x.d,.d y.d] []=some (.d z.d,none))
section steps
variable {iv iw i:Nat} {v0 v1 v2 v3 v4 v5 v6 w0 w1 w2 w3 w4 w5 w6:FV} {vs ws:List D} {x y z:W} {k:Int}
theorem Qw (hk:single k=true)(h:Ox k x y z)(hx:vs[i]?=some x.d)(hy:ws[i]?=some y.d):GG 45 iv iw (.box [v0,v1,v2,v3,v4,v5,v6,.d (.s 8 vs)]) (.box [w0,w1,w2,w3,w4,w5,w6,.d (.s 8 ws)]) k i z:=by
 obtain⟨N,t3,t⟩:=h;refine⟨N+100,fun H o hv hw h3 _ m => ?_⟩;rcases aO hk with rfl|rfl|rfl|rfl|rfl
 ·exact UW H iv iw i v0 v1 v2 v3 v4 v5 v6 w0 w1 w2 w3 w4 w5 w6 vs ws x y z hv hw hx hy 108 110 111 115 117 118 119 121 113 N (t (by decide)) m
 ·exact UU H iv iw i v0 v1 v2 v3 v4 v5 v6 w0 w1 w2 w3 w4 w5 w6 vs ws x y z hv hw hx hy 122 123 124 127 195 126 128 131 (o+3) (o+2) 125 N (t (by decide)) m
 ·exact aca H iv iw i v0 v1 v2 v3 v4 v5 v6 w0 w1 w2 w3 w4 w5 w6 vs ws x y z hv hw hx hy 133 110 111 115 195 136 119 138 (o+3) (o+2) (o+2) N (Es o) (h3 rfl) (UY o) (fun B hB m=>t3 rfl B (o+2) o hB m) m
 ·exact UU H iv iw i v0 v1 v2 v3 v4 v5 v6 w0 w1 w2 w3 w4 w5 w6 vs ws x y z hv hw hx hy 139 140 141 143 195 118 144 147 (o+3) (o+2) 142 N (t (by decide)) m
 ·exact UW H iv iw i v0 v1 v2 v3 v4 v5 v6 w0 w1 w2 w3 w4 w5 w6 vs ws x y z hv hw hx hy 149 151 152 156 158 118 160 163 154 N (t (by decide)) m
end steps
theorem U2 {k:Int}(hk:single k=true)(v w x y z:W)(hv:Ca E1 41 [.d (bA k []),.d v.d] (.d x.d,none))(hw:Ca E1 41 [.d (bA k []),.d w.d] (.d y.d,none))(h:Ox k x y z):Ca E1 14 [.d (bA k []),.d v.d,.d w.d] (.d z.d,none):=by
 obtain⟨N3,t3,t⟩:=h;obtain⟨N1,t1⟩:=hv.any;obtain⟨N2,t2⟩:=hw.any;obtain⟨N4,t42⟩:=(Ou hk).any;obtain⟨K,hK⟩:∃ K,K=N1+N2+N4+N3+500:=⟨_,rfl⟩
 replace t1:=t1 K omK;replace t2:=t2 K omK;replace t42:=t42 K omK;replace t:=fun h m=>eP (t h 0) (show N3+0<=K+m by omega)
 replace t3:=fun h B j o hB m=>eP (t3 h B j o hB 0) (show N3+0<=K+m by omega)
 have t31:=fun m=>eP (Ov (sv1 hk) 0) (show 0+500<=K+m by omega)
 obtain⟨vs,vl1,vl2,vc,vb,vu,vp,vps,ev⟩:=v.aN;obtain⟨ws,wl1,wl2,wc,wb,wu,wp,wps,ew⟩:=w.aN;obtain⟨xs,xl1,xl2,xc,xb,xu,xp,xps,ex⟩:=x.aN;obtain⟨ys,yl1,yl2,yc,yb,yu,yp,yps,ey⟩:=y.aN;obtain⟨zs,GA,GD,zc,zb,zu,zp,Ik,ez⟩:=z.aN;simp only[ev,ew,ex,ey,ez]at t1 t2 t t3 ⊢;clear ev ew ex ey ez hK hv hw;refine Ca.bO (n:=K+100) ?_;rw[av rfl (k14:E1.fn _=_) rfl];unfold wD bA at*;simp only[show LK .i64 []=[] from rfl]at*;rcases aO hk with rfl|rfl|rfl|rfl|rfl
 ·replace t:=t (by decide);simp[Ow,wW,rD,Er]at t42 t;simp -implicitDefEqProofs[f14,t31,t1,t2,t42,t]
 ·replace t:=t (by decide);simp[Ow,wW,vg,o9,rE]at t42 t;simp -implicitDefEqProofs[f14,t31,t1,t2,t42,t,FV.shift,FV.jk,ae.shift]
 ·replace t3:=t3 rfl [.box [.d (.v (.int .i64 3)),.d (.s 1 [])],.box [.d (.v (.bool xs)),.d (.s 1 xl1),.d (.s 1 xl2),.d (.v (.int .i64 xc)),.d (.v (.bool xb)),.d (.v (.int .u64 xu)),.d (.s 6 xp),.d (.s 8 xps)],.box [.d (.v (.bool ys)),.d (.s 1 yl1),.d (.s 1 yl2),.d (.v (.int .i64 yc)),.d (.v (.bool yb)),.d (.v (.int .u64 yu)),.d (.s 6 yp),.d (.s 8 yps)],bn (.d (.n 8)),Es 4,Es 4,Es 4,.box [.d (.fn 111)]] 6 4 rfl;unfold Es bn at t3;simp[wW,vk,o_,rF]at t42;simp -implicitDefEqProofs[f14,t31,t1,t2,t42,t3,FV.aA,FV.aR,FV.shift,FV.jk,ae.shift,ae.aA]
 all_goals
  replace t:=t (by decide);simp[Ow,wW,vz,pE,rG,rC]at t42 t;simp -implicitDefEqProofs[f14,t31,t1,t2,t42,t,FV.shift,FV.jk,ae.shift]
def Jz (xs:List W):ae:=.box [.d (.v (.bool false)),.d (.s 1 []),.d (.s 1 []),.d (.v (.int .i64 0)),.d (.v (.bool false)),.d (.v (.int .u64 0)),.d (.s 6 []),.d (.s 8 (W.ds xs))]
theorem JA (xs:List W)(n:Nat):ae.aA n (Jz xs)=Jz xs:=by simp[Jz,ae.aA,FV.aR,FV.aA]
theorem rg6 {ps:List Int}(h:aJ 6 ps=true):ps.length<=3/\2<=ps.length/\∀ k ∈ ps,single k=true:=by
 unfold aJ at h;rw[if_neg (by simp)]at h;simp only[Qb2,decide_eq_true_eq,Qf2]at h;exact⟨h.1.2,h.1.1,h.2⟩
theorem U3 {ps:List Int}(hv:aJ 6 ps=true)(v w:W)(xs ys zs:List W)(lx:xs.length=ps.length)(ly:ys.length=ps.length)(lz:zs.length=ps.length)
  (h1:Ca E1 41 [.d (bA 6 ps),.d v.d] (.d (fQ xs).d,none)) (h2:Ca E1 41 [.d (bA 6 ps),.d w.d] (.d (fQ ys).d,none))
  (h:∀ (i:Nat) (k:Int) (x y z:W),ps[i]?=some k->xs[i]?=some x->ys[i]?=some y->zs[i]?=some z->Ox k x y z):Ca E1 14 [.d (bA 6 ps),.d v.d,.d w.d] (.d (fQ zs).d,none):=by
 obtain⟨a1,a2,a3⟩:=rg6 hv;obtain⟨N3,t43⟩:=U1 45 1 2 6 ps [.box [.d (.v (.int .i64 6)),.d (.s 1 (LK .i64 ps))],Jz xs,Jz ys,bn (.d (.n 8))] (Jz xs) (Jz ys) zs a3 a1 lz rfl rfl (JA xs) (JA ys) (fun i k z hk hz=>by
  have hi:i<ps.length:=(bD hk)
  have hx:xs[i]?=some (xs[i]'(by omega)):=Qa0 (show i<xs.length by omega);have hy:ys[i]?=some (ys[i]'(by omega)):=Qa0 (show i<ys.length by omega);exact Qw (a3 k (Qa2 hk)) (h i k _ _ z hk hx hy hz) (by rw[W.gX,Qb1,hx];rfl) (by rw[W.gX,Qb1,hy];rfl))
 obtain⟨N1,t1⟩:=h1.any;obtain⟨N2,t2⟩:=h2.any;obtain⟨N,hN⟩:∃ N,N=N1+N2+N3+500:=⟨_,rfl⟩
 replace t1:=t1 N omK;replace t2:=t2 N omK;replace t43:=fun m=>eP (t43 0) (show N3+0<=N+m by omega)
 have t31:=fun m=>eP (Ov hv 0) (show 0+500<=N+m by omega)
 obtain⟨vs,vl1,vl2,vc,vb,vu,vp,vps,ev⟩:=v.aN;obtain⟨ws,wl1,wl2,wc,wb,wu,wp,wps,ew⟩:=w.aN;have ex:∀ zs:List W,(fQ zs).d=.a [.v (.bool false),.s 1 [],.s 1 [],.v (.int .i64 0),.v (.bool false),.v (.int .u64 0),.s 6 [],.s 8 (W.ds zs)]:=fun _=>rfl
 rw[ev,ex]at t1;rw[ew,ex]at t2;rw[ex]at t43;rw[ev,ew,ex];unfold wD bA Jz bn at*;clear ev ew ex hN h h1 h2 a1 a2 a3 lx ly lz hv;refine Ca.bO (n:=N+100) ?_;rw[av rfl (k14:E1.fn _=_) rfl];generalize W.ds xs=x1,W.ds ys=x2,W.ds zs=x3,LK .i64 ps=l1 at*;simp -implicitDefEqProofs[f14,t31,t1,t2,t43,FV.aA,FV.aR,ae.aA]
end
end Fi.S
namespace Fi.S
open Go Fi
set_option maxHeartbeats 8000000
def dF (k:Int):Sv:=if k=2 then .c true 0 else if k=4 then .s 0 else if k=5 then .p [] else .q 0
theorem U4 {k:Int}(hk:single k=true)(S M:Nat)(hS:1<=S):(dF k).of k S M:=by
 rcases aO hk with rfl|rfl|rfl|rfl|rfl
 ·exact⟨.inl rfl,Qc2 jJ hS⟩
 ·exact⟨rfl,by decide,by decide,fun _=>rfl⟩
 ·exact⟨.inr ⟨rfl,by decide,by decide⟩,Qc2 jJ hS⟩
 ·exact⟨rfl,by decide,by decide⟩
 ·exact⟨rfl,PV.nil S,Q02 _⟩
theorem JB {k:Int}(hk:single k=true){S M:Nat}(hS:S<=1000)(hM:(M+M)*(S+1)<=50000){x y:Sv}(hx:x.of k S M)(hy:y.of k S M):Ox k x.w y.w (dB k x y).w:=by
 rcases aO hk with rfl|rfl|rfl|rfl|rfl
 ·cases x with
  | q x=>cases y with
   | q y =>
    obtain⟨N,t⟩:=(UL x y (by have:=hx.2;omega) (by have:=hy.2;omega)).get;exact⟨N,fun h=>absurd h (by decide),fun _=>t⟩
   | c j m=>exact absurd hy.1 (by decide)
   | s v=>exact absurd hy.1 (by decide)
   | p b=>exact absurd hy.1 (by decide)
  | c i n=>exact absurd hx.1 (by decide)
  | s u=>exact absurd hx.1 (by decide)
  | p a=>exact absurd hx.1 (by decide)
 ·cases x with
  | c i n=>cases y with
   | c j m =>
    obtain⟨N,t⟩:=(UN i j n m).get;exact⟨N,fun h=>absurd h (by decide),fun _=>t⟩
   | q y=>rcases hy.1 with h | h;exact absurd h (by decide);exact absurd h.1 (by decide)
   | s v=>exact absurd hy.1 (by decide)
   | p b=>exact absurd hy.1 (by decide)
  | q x=>rcases hx.1 with h | h;exact absurd h (by decide);exact absurd h.1 (by decide)
  | s u=>exact absurd hx.1 (by decide)
  | p a=>exact absurd hx.1 (by decide)
 ·cases x with
  | q x=>cases y with
   | q y =>
    obtain⟨N,t⟩:=Qr x y (by have:=hx.2;omega) (by have:=hy.2;omega);exact⟨N,fun _ B j o hB m=>t B j _ _ _ _ _ _ _ _ hB m,fun h=>absurd rfl h⟩
   | c j m=>exact absurd hy.1 (by decide)
   | s v=>exact absurd hy.1 (by decide)
   | p b=>exact absurd hy.1 (by decide)
  | c i n=>exact absurd hx.1 (by decide)
  | s u=>exact absurd hx.1 (by decide)
  | p a=>exact absurd hx.1 (by decide)
 ·cases x with
  | s u=>cases y with
   | s v =>
    obtain⟨N,t⟩:=(UO u v).get;exact⟨N,fun h=>absurd h (by decide),fun _=>t⟩
   | q y=>rcases hy.1 with h | h;exact absurd h (by decide);exact absurd h.1 (by decide)
   | c j m=>exact absurd hy.1 (by decide)
   | p b=>exact absurd hy.1 (by decide)
  | q x=>rcases hx.1 with h | h;exact absurd h (by decide);exact absurd h.1 (by decide)
  | c i n=>exact absurd hx.1 (by decide)
  | p a=>exact absurd hx.1 (by decide)
 ·cases x with
  | p a=>cases y with
   | p b =>
    have h1:(a++b).length*(S+1)<=50000:=by
     have:=hx.2.2;have:=hy.2.2;refine Qc2 (Qe1 _ ?_) hM;rw[Qb0];omega
    obtain⟨N,t⟩:=(UR hx.2.1 hy.2.1 hS h1).get;exact⟨N,fun h=>absurd h (by decide),fun _=>t⟩
   | q y=>rcases hy.1 with h | h;exact absurd h (by decide);exact absurd h.1 (by decide)
   | c j m=>exact absurd hy.1 (by decide)
   | s v=>exact absurd hy.1 (by decide)
  | q x=>rcases hx.1 with h | h;exact absurd h (by decide);exact absurd h.1 (by decide)
  | c i n=>exact absurd hx.1 (by decide)
  | s u=>exact absurd hx.1 (by decide)
inductive W.Sm (S:Nat):W->Prop
 | mk {s:Bool} {a b:List Nat} {c:Int} {i:Bool} {u:Int} {p:List Mo} {ps:List W} (ha:bV a) (hb:bV b) (la:a.length<=S) (lb:b.length<=S) (hp:∀ m ∈ p,bV m.a/\bV m.b/\m.a.length<=S/\m.b.length<=S) (hu:Ah u)
   (h:∀ w ∈ ps,W.Sm S w):W.Sm S (.mk s a b c i u p ps)
theorem GJ:q0 false [] []=true:=rfl
theorem U5 {k:Int}{S M:Nat}{x:Sv}(h:x.of k S M):fI k x.w=true:=by
 cases x with
 | q x =>
  obtain⟨h1,h2⟩:=h;have hv:=tQ x;rcases h1 with rfl|⟨rfl,h0,h1⟩
  ·simp[fI,Sv.w,hv]
  ·have e:bZ (qs x) (qn x) (qd x)=x:=ru x;have h3:(0:Int)<=x.num.sign:=Int.sign_nonneg_iff.2 (Rat.num_nonneg.2 h0);have h4:¬ (1:Rat)<x:=by grind
   simp[fI,Sv.w,hv,e,h3,h4]
 | c i n =>
  obtain⟨rfl,h1,h2,h3⟩:=h;cases i with
  | false=>simp[fI,Sv.w,h1,h2,GJ]
  | true =>
   have:=h3 rfl;subst this;simp[fI,Sv.w,GJ]
 | s u =>
  obtain⟨rfl,_⟩:=h;simp[fI,Sv.w,GJ]
 | p l =>
  obtain⟨rfl,h1,_⟩:=h;have:=AR h1 (q:=none) (fun m hm=>by cases hm);simp[fI,Sv.w,GJ,this]
theorem U6 {k:Int}{S M:Nat}{x:Sv}(h:x.of k S M)(hS:S<=1000):x.w.OK:=by
 have hl:bV []:=fun _ h=>(by cases h)
 have hp0:Po []:=⟨fun _ h=>(by cases h),by simp⟩
 have hw0:∀ w ∈ ([]:List W),w.OK:=fun _ h=>(by cases h)
 cases x with
 | q x =>
  have h1:(qn x).length<=qz x:=Q11 _ _;have h2:(qd x).length<=qz x:=by
   unfold qd;split
   ·simp
   ·exact Q00 _ _
  have:=h.2;exact .mk (Gi x) (Gj x) omK omK hp0 (by simp) hw0
 | c i n=>exact .mk hl hl (by simp) (by simp) hp0 (by simp) hw0
 | s u=>exact .mk hl hl (by simp) (by simp) hp0 (by simp) hw0
 | p l=>exact .mk hl hl (by simp) (by simp) (Uy h.2.1 hS) (by simp) hw0
theorem Y1 (u v:Int):Ah (Bj .u64 u v):=by
 have h:=Go.wf_wrap .u64 ((BitVec.ofInt 64 u ||| BitVec.ofInt 64 v).toNat:Int);simp only[Lit.wf,Qb2,decide_eq_true_eq]at h;have e1:IntKind.min .u64=0:=by rfl
 have e2:IntKind.max .u64=18446744073709551615:=by rfl
 rw[e1,e2]at h;have e3:Bj .u64 u v=IntKind.wrap .u64 ((BitVec.ofInt 64 u ||| BitVec.ofInt 64 v).toNat:Int):=yx ..;rw[e3];unfold Ah;omega
end Fi.S
namespace Fi.S
open Go Fi
set_option maxHeartbeats 8000000
theorem Qx (a:List aZ):gH a []=[]:=by
 induction a with
 | nil=>rfl
 | cons p r ih =>
  have:gH (p::r) []=rO p []++gH r []:=by simp[gH]
  rw[this,ih];rfl
theorem Mw {k:Int}(hk:single k=true){S M:Nat}{x:Sv}(hx:x.of k S M):dm x (dF k)=dF k:=by
 rcases aO hk with rfl|rfl|rfl|rfl|rfl
 ·cases x with
  | q x=>show Sv.q (x*0)=.q 0;rw[Rat.mul_zero]
  | c i n=>exact absurd hx.1 (by decide)
  | s u=>exact absurd hx.1 (by decide)
  | p a=>exact absurd hx.1 (by decide)
 ·cases x with
  | c i n =>
   show(if i||(true||decide (1099511627776<n+0)) then Sv.c true 0 else .c false (n+0))=.c true 0;simp
  | q x=>rcases hx.1 with h | h;exact absurd h (by decide);exact absurd h.1 (by decide)
  | s u=>exact absurd hx.1 (by decide)
  | p a=>exact absurd hx.1 (by decide)
 ·cases x with
  | q x=>show Sv.q (x*0)=.q 0;rw[Rat.mul_zero]
  | c i n=>exact absurd hx.1 (by decide)
  | s u=>exact absurd hx.1 (by decide)
  | p a=>exact absurd hx.1 (by decide)
 ·cases x with
  | s u =>
   show Sv.s (nP .u64 u 0)=.s 0;have:nP .u64 u 0=0:=by
    rw[Az];have h0:BitVec.ofInt (IntKind.bits .u64) 0=0#(IntKind.bits .u64):=rfl;rw[h0,BitVec.and_zero];rfl
   rw[this]
  | q x=>rcases hx.1 with h | h;exact absurd h (by decide);exact absurd h.1 (by decide)
  | c i n=>exact absurd hx.1 (by decide)
  | p a=>exact absurd hx.1 (by decide)
 ·cases x with
  | p a =>
   show Sv.p (iH a [])=.p [];have:iH a []=[]:=by
    unfold iH;rw[Qx];simp[canon,gF]
   rw[this]
  | q x=>rcases hx.1 with h | h;exact absurd h (by decide);exact absurd h.1 (by decide)
  | c i n=>exact absurd hx.1 (by decide)
  | s u=>exact absurd hx.1 (by decide)
theorem GK {k:Int}{ps:List Int}(hl:ps.length<=1000000){w:W}(hw:w.OK)(h:cZ k ps w=true):Ca E1 41 [.d (bA k ps),.d w.d] (.d w.d,none):=by
 have t0:=BV k ps w hl hw;rw[h]at t0;obtain⟨N,t⟩:=(Ca.fP t0).get;obtain⟨vs,vl1,vl2,vc,vb,vu,vp,vps,ev⟩:=w.aN;rw[ev]at t ⊢;refine Ca.bO (n:=N+60) ?_;rw[av rfl (k41:E1.fn _=_) rfl];unfold wD bA at*;generalize LK .i64 ps=l1 at*;clear ev t0;simp -implicitDefEqProofs[f41,t]
end Fi.S
