import Derived.Test.YtbbogkfadofneaaGreatDoorCL
set_option linter.unusedVariables false
set_option linter.unusedSimpArgs false
noncomputable section
namespace Fi.S
open Go Fi
set_option maxHeartbeats 8000000
inductive Sv where
 | q (x:Rat)
 | c (i:Bool) (n:Int)
 | s (u:Int)
 | p (l:List a_)
def Sv.w:Sv->W
 | .q x=>.mk (qs x) (qn x) (qd x) 0 false 0 [] []
 | .c i n=>.mk false [] [] n i 0 [] []
 | .s u=>.mk false [] [] 0 false u [] []
 | .p l=>.mk false [] [] 0 false 0 (l.map uE) []
def Sv.of (k:Int)(S M:Nat):Sv->Prop
 | .q x=>(k=1\/(k=3/\0<=x/\x<=1))/\qz x<=S
 | .c i n=>k=2/\0<=n/\n<=1099511627776/\(i=true->n=0)
 | .s u=>k=4/\z_ u
 | .p l=>k=5/\PV S l/\l.length<=M
theorem Sv.of.mono {k:Int}{S T M M':Nat}{x:Sv}(h:x.of k S M)(hST:S<=T)(hM:M<=M'):x.of k T M':=by
 cases x with
 | q x=>exact⟨h.1,Qc2 h.2 hST⟩
 | c i n=>exact h
 | s u=>exact h
 | p l=>exact⟨h.1,h.2.1.mono hST,Qc2 h.2.2 hM⟩
def nK (i:Bool)(n:Int)(j:Bool)(m:Int):Bool := !i&&(j||decide (n<m))
noncomputable def dF (k:Int):Sv->Sv->Sv
 | .q x,.q y=>if k=3 then(if x<y then .q y else .q x) else .q (x+y)
 | .c i n,.c j m=>if nK j m i n then .c j m else .c i n
 | .s u,.s v=>.s (Ba .u64 u v)
 | .p a,.p b=>.p (gz a b)
 | x,_=>x
noncomputable def dn:Sv->Sv->Sv
 | .q x,.q y=>.q (x*y)
 | .c i n,.c j m=>if i||(j||decide (1099511627776<n+m)) then .c true 0 else .c false (n+m)
 | .s u,.s v=>.s (jH .u64 u v)
 | .p a,.p b=>.p (iJ a b)
 | x,_=>x
theorem UD (x y:Rat)(hx:qz x<=100000)(hy:qz y<=100000):Ca E1 113 [.d (Sv.q x).w.d,.d (Sv.q y).w.d] (.d (Sv.q (x+y)).w.d,none):=by
 obtain⟨N,t⟩:=(Ca.ib (Gn x y hx hy)).get;refine Ca.bP (n:=N+60) ?_;rw[av rfl (aM 113 f113:E1.fn _=_) rfl];generalize x+y=z at*;simp only[Sv.w,W.d,W.ds,PD,qD,raw,LD,Qc1]at*;generalize qs x=s1,qs y=s2,qs z=s3,LL (qn x)=x1,LL (qd x)=x2,LL (qn y)=y1,LL (qd y)=y2,LL (qn z)=z1,LL (qd z)=z2 at*;simp[f113,t]
theorem UE (i j:Bool)(n m:Int):Ca E1 126 [.d (Sv.c i n).w.d,.d (Sv.c j m).w.d] (dB (nK i n j m),none):=by
 refine Ca.bP (n:=60) ?_;rw[av rfl (aM 126 f126:E1.fn _=_) rfl];simp only[Sv.w,W.d,W.ds,PD,LD,LL,Qc1,nK]at*;cases i<;>cases j<;>by_cases h:n<m<;>simp[f126,h]
theorem UF (i j:Bool)(n m:Int):Ca E1 125 [.d (Sv.c i n).w.d,.d (Sv.c j m).w.d] (.d (dF 2 (.c i n) (.c j m)).w.d,none):=by
 obtain⟨N,t⟩:=(UE j i m n).get;refine Ca.bP (n:=N+60) ?_;rw[av rfl (aM 125 f125:E1.fn _=_) rfl];have e:dF 2 (.c i n) (.c j m)=if nK j m i n then .c j m else .c i n:=rfl
 rw[e];clear e;generalize nK j m i n=b at*;cases b
 ·simp only[Sv.w,W.d,W.ds,PD,LD,LL,Qc1,Qh1,if_false]at*;simp[f125,t]
 ·simp only[Sv.w,W.d,W.ds,PD,LD,LL,Qc1,if_true]at*;simp[f125,t]
theorem UG (u v:Int):Ca E1 142 [.d (Sv.s u).w.d,.d (Sv.s v).w.d] (.d (Sv.s (Ba .u64 u v)).w.d,none):=by
 refine Ca.bP (n:=60) ?_;rw[av rfl (aM 142 f142:E1.fn _=_) rfl];simp[f142,Sv.w,W.d,W.ds,PD,LD,LL]
theorem UH (l:List a_):(Sv.p l).w.d=.a [vB false,.s 1 [],.s 1 [],vI 0,vB false,.v (.int .u64 0),aZ l,.s 8 []]:=by
 simp only[Sv.w,W.d,W.ds,LD,LL,Qc1,Gw]
theorem UI {S:Nat}{a b:List a_}(ha:PV S a)(hb:PV S b)(hS:S<=1000)(hm:(a++b).length*(S+1)<=50000):Ca E1 154 [.d (Sv.p a).w.d,.d (Sv.p b).w.d] (.d (Sv.p (gz a b)).w.d,none):=by
 obtain⟨N,t⟩:=(YQ ha hb hS hm).get;refine Ca.bP (n:=N+60) ?_;rw[av rfl (aM 154 f154:E1.fn _=_) rfl];simp only[UH];generalize gz a b=c at*;unfold aZ at*;generalize (a.map fun p=>qC p.1 p.2)=x1,(b.map fun p=>qC p.1 p.2)=x2,(c.map fun p=>qC p.1 p.2)=x3 at*;simp[f154,t]
theorem UJ (x:Rat):0<x.num↔0<x:=by
 have h:=@Rat.num_nonneg (-x);have e:(-x).num=-x.num:=aA;rw[e]at h;have h1:0<x.num↔¬ 0<=-x.num:=ae;have h2:0<x↔¬ 0<=-x:=by grind
 rw[h1,h2,h]
theorem Ma (x y:Rat)(hx:qz x<=100000)(hy:qz y<=100000):Ca E1 136 [.d (Sv.q x).w.d,.d (Sv.q y).w.d] (dB (decide (y<x)),none):=by
 obtain⟨N,t⟩:=(Ca.ib (zh x y hx hy)).get;refine Ca.bP (n:=N+60) ?_;rw[av rfl (aM 136 f136:E1.fn _=_) rfl];have hs:decide ((0:Int)<(x-y).num.sign)=decide (y<x):=by
  rw[decide_eq_decide,Int.sign_pos_iff,UJ];grind
 rw[<-hs];generalize (x-y).num.sign=z at*;simp only[Sv.w,W.d,W.ds,PD,qD,raw,LD,Qc1]at*;generalize qs x=s1,qs y=s2,LL (qn x)=x1,LL (qd x)=x2,LL (qn y)=y1,LL (qd y)=y2 at*;simp[f136,t,LL]
theorem Qb (x y:Rat)(hx:qz x<=90000)(hy:qz y<=90000) :
  ∃ N,∀ (B:List ah) (j:Nat) (c0 c1 c2 c3 c4 c5 c7 c8:FV),B[j]?=some (.box [c0,c1,c2,c3,c4,c5,.d (.fn 136),c7,c8])->∀ k,CL E1 (N+k) 137 [.d (Sv.q x).w.d,.d (Sv.q y).w.d,.r (.old j) 0] B=some (.d (dF 3 (.q x) (.q y)).w.d,none):=by
 have hz:=jJ;have hxy:dF 3 (.q x) (.q y)=.q ((if x<y then y else x)+0):=by
  have e:dF 3 (.q x) (.q y)=if x<y then .q y else .q x:=rfl
  have e2:∀ z:Rat,z+0=z:=fun z=>Rat.add_zero z
  rw[e,e2];split<;>rfl
 rw[hxy];obtain⟨M,hM,t1,t2⟩:=((Ma y x ae ae).j ((Ca.ib (Gn (if x<y then y else x) 0 (by split<;>omega) ae)).any)).at 0;refine⟨M+100,fun B j c0 c1 c2 c3 c4 c5 c7 c8 hB k => ?_⟩;have hjl:j<B.length:=(bq hB)
 have NY:∀ L,(B++L)[j]?=some (.box [c0,c1,c2,c3,c4,c5,.d (.fn 136),c7,c8]):=fun L=>by rw[Qa0 hjl];exact hB
 replace t1:=fun m=>t1 (k+m)
 replace t2:=fun m=>t2 (k+m)
 simp only[<-Qu1]at t1 t2;rw[show M+100+k=M+k+100 by omega];generalize M+k=m at*;rw[wG]at t2;rw[av rfl (aM 137 f137:E1.fn _=_) rfl]
 by_cases h:x<y
 ·rw[if_pos h]at t2 ⊢;rw[decide_eq_true h]at t1;generalize y+0=z at*;simp only[Sv.w,W.d,W.ds,PD,qD,raw,LD,Qc1]at*;generalize qs x=s1,qs y=s2,qs z=s3,LL (qn x)=x1,LL (qd x)=x2,LL (qn y)=y1,LL (qd y)=y2,LL (qn z)=z1,LL (qd z)=z2 at*;simp[f137,t1,t2,NY,LL]
 ·rw[if_neg h]at t2 ⊢;rw[decide_eq_false h]at t1;generalize x+0=z at*;simp only[Sv.w,W.d,W.ds,PD,qD,raw,LD,Qc1]at*;generalize qs x=s1,qs y=s2,qs z=s3,LL (qn x)=x1,LL (qd x)=x2,LL (qn y)=y1,LL (qd y)=y2,LL (qn z)=z1,LL (qd z)=z2 at*;simp[f137,t1,t2,NY,LL]
section
def wD (s:Bool)(l1 l2:List D)(c:Int)(b:Bool)(u:Int)(p ps:List D):D:=.a [vB s,.s 1 l1,.s 1 l2,vI c,vB b,.v (.int .u64 u),.s 6 p,.s 8 ps]
theorem W.aN (w:W):∃ s l1 l2 c b u p ps,w.d=wD s l1 l2 c b u p ps:=by
 obtain⟨s,a,b,c,i,u,p,ps⟩:=w;exact⟨s,LL a,LL b,c,i,u,p.map Mo.d,W.ds ps,rfl⟩
section parts
variable (H:List ah) (iv iw i:Nat) (v0 v1 v2 v3 v4 v5 v6 w0 w1 w2 w3 w4 w5 w6:FV) (vs ws:List D) (x y z:W)
theorem UK (hv:H[iv]?=some (.box [v0,v1,v2,v3,v4,v5,v6,.d (.s 8 vs)]))(hw:H[iw]?=some (.box [w0,w1,w2,w3,w4,w5,w6,.d (.s 8 ws)]))(hx:vs[i]?=some x.d)(hy:ws[i]?=some y.d)
  (c0 c1 c2 c4 c5 c6 c7 c8 a b:Nat) (g M:Nat) (t:∀ m,CL E1 (M+m) g [.d x.d,.d y.d] []=some (.d z.d,none)) (m:Nat) :
  CL E1 (M+100+m) 45 [.a [.d (.fn c0),.d (.fn c1),.d (.fn c2),.d (.fn g),.d (.fn c4),.f c5 [] [.r (.old a) 0],.d (.fn c6),.d (.fn c7),.f c8 [] [.r (.old b) 0]],dI i,.r (.old iv) 0,.r (.old iw) 0] H=some (.d z.d,none):=by
 have hvl:iv<H.length:=(bq hv)
 have hwl:iw<H.length:=(bq hw)
 have gv:∀ L,(H++L)[iv]?=some (.box [v0,v1,v2,v3,v4,v5,v6,.d (.s 8 vs)]):=fun L=>by rw[Qa0 hvl];exact hv
 have gw:∀ L,(H++L)[iw]?=some (.box [w0,w1,w2,w3,w4,w5,w6,.d (.s 8 ws)]):=fun L=>by rw[Qa0 hwl];exact hw
 have i1:i<vs.length:=(bq hx)
 have i2:i<ws.length:=(bq hy)
 have hi0:(0:Int)<=(i:Int):=ae;obtain⟨xs,xl1,xl2,xc,xb,xu,xp,xps,ex⟩:=x.aN;obtain⟨ys,yl1,yl2,yc,yb,yu,yp,yps,ey⟩:=y.aN;obtain⟨zs,Ed,Ee,zc,zb,zu,zp,E9,ez⟩:=z.aN;rw[ex]at hx t;rw[ey]at hy t;rw[ez]at t ⊢;replace t:=fun k=>t (m+k)
 simp only[<-Qu1]at t;rw[show M+100+m=M+m+100 by omega];generalize M+m=n at*;rw[av rfl (k45:E1.fn _=_) rfl];unfold wD at*;have j1:=idx hx;have j2:=idx hy;simp[f45,t,gv,gw,i1,i2,hi0,j1,j2,hx,hy]
theorem UL (hv:H[iv]?=some (.box [v0,v1,v2,v3,v4,v5,v6,.d (.s 8 vs)]))(hw:H[iw]?=some (.box [w0,w1,w2,w3,w4,w5,w6,.d (.s 8 ws)]))(hx:vs[i]?=some x.d)(hy:ws[i]?=some y.d)
  (c0 c1 c2 c4 c5 c6 c7 c8:Nat) (g M:Nat) (t:∀ m,CL E1 (M+m) g [.d x.d,.d y.d] []=some (.d z.d,none)) (m:Nat) :
  CL E1 (M+100+m) 45 [.d (.a [.fn c0,.fn c1,.fn c2,.fn g,.fn c4,.fn c5,.fn c6,.fn c7,.fn c8]),dI i,.r (.old iv) 0,.r (.old iw) 0] H=some (.d z.d,none):=by
 have hvl:iv<H.length:=(bq hv)
 have hwl:iw<H.length:=(bq hw)
 have gv:∀ L,(H++L)[iv]?=some (.box [v0,v1,v2,v3,v4,v5,v6,.d (.s 8 vs)]):=fun L=>by rw[Qa0 hvl];exact hv
 have gw:∀ L,(H++L)[iw]?=some (.box [w0,w1,w2,w3,w4,w5,w6,.d (.s 8 ws)]):=fun L=>by rw[Qa0 hwl];exact hw
 have i1:i<vs.length:=(bq hx)
 have i2:i<ws.length:=(bq hy)
 have hi0:(0:Int)<=(i:Int):=ae;obtain⟨xs,xl1,xl2,xc,xb,xu,xp,xps,ex⟩:=x.aN;obtain⟨ys,yl1,yl2,yc,yb,yu,yp,yps,ey⟩:=y.aN;obtain⟨zs,Ed,Ee,zc,zb,zu,zp,E9,ez⟩:=z.aN;rw[ex]at hx t;rw[ey]at hy t;rw[ez]at t ⊢;replace t:=fun k=>t (m+k)
 simp only[<-Qu1]at t;rw[show M+100+m=M+m+100 by omega];generalize M+m=n at*;rw[av rfl (k45:E1.fn _=_) rfl];unfold wD at*;have j1:=idx hx;have j2:=idx hy;simp[f45,t,gv,gw,i1,i2,hi0,j1,j2,hx,hy]
theorem acd (hv:H[iv]?=some (.box [v0,v1,v2,v3,v4,v5,v6,.d (.s 8 vs)]))(hw:H[iw]?=some (.box [w0,w1,w2,w3,w4,w5,w6,.d (.s 8 ws)]))(hx:vs[i]?=some x.d)(hy:ws[i]?=some y.d)
  (c0 c1 c2 c4 c5 c6 c7 c8 a b:Nat) (j M:Nat) (o:ah) (hj:H[j]?=some o) (ho:∀ n,ah.az n o=o) (t:∀ B,B[j]?=some o->∀ m,CL E1 (M+m) 137 [.d x.d,.d y.d,.r (.old j) 0] B=some (.d z.d,none)) (m:Nat) :
  CL E1 (M+100+m) 45 [.a [.d (.fn c0),.d (.fn c1),.d (.fn c2),.f 137 [] [.r (.old j) 0],.d (.fn c4),.f c5 [] [.r (.old a) 0],.d (.fn c6),.d (.fn c7),.f c8 [] [.r (.old b) 0]],dI i,.r (.old iv) 0,.r (.old iw) 0] H=some (.d z.d,none):=by
 have hvl:iv<H.length:=(bq hv)
 have hwl:iw<H.length:=(bq hw)
 have hjl:j<H.length:=(bq hj)
 have gv:∀ L,(H++L)[iv]?=some (.box [v0,v1,v2,v3,v4,v5,v6,.d (.s 8 vs)]):=fun L=>by rw[Qa0 hvl];exact hv
 have gw:∀ L,(H++L)[iw]?=some (.box [w0,w1,w2,w3,w4,w5,w6,.d (.s 8 ws)]):=fun L=>by rw[Qa0 hwl];exact hw
 have i1:i<vs.length:=(bq hx)
 have i2:i<ws.length:=(bq hy)
 have hi0:(0:Int)<=(i:Int):=ae;obtain⟨xs,xl1,xl2,xc,xb,xu,xp,xps,ex⟩:=x.aN;obtain⟨ys,yl1,yl2,yc,yb,yu,yp,yps,ey⟩:=y.aN;obtain⟨zs,Ed,Ee,zc,zb,zu,zp,E9,ez⟩:=z.aN;rw[ex]at hx t;rw[ey]at hy t;rw[ez]at t ⊢;have gj:∀ L,(List.map (ah.az H.length) H++L)[j]?=some o:=fun L=>by rw[Qa0 (by simpa using hjl),Qb2,hj];exact congrArg some (ho _)
 replace t:=fun L k=>t (List.map (ah.az H.length) H++L) (gj L) (m+k)
 simp only[<-Qu1]at t;rw[show M+100+m=M+m+100 by omega];generalize M+m=n at*;rw[av rfl (k45:E1.fn _=_) rfl];unfold wD at*;have j1:=idx hx;have j2:=idx hy;simp[f45,t,FV.az,FV.aP,gv,gw,i1,i2,hi0,j1,j2,hx,hy]
end parts
end
def UM (k:Int)(o:Nat):FV :=
 if k=1 then rC else if k=5 then rA
 else if k=2 then .a [(.d (.fn 122)),(.d (.fn 123)),(.d (.fn 124)),(.d (.fn 125)),(.d (.fn 127)),(.f 195 [] [(.r (.old (o+3)) 0)]),(.d (.fn 126)),(.d (.fn 128)),(.f 131 [] [(.r (.old (o+2)) 0)])]
 else if k=3 then .a [(.d (.fn 133)),(.d (.fn 110)),(.d (.fn 111)),(.f 137 [] [(.r (.old (o+2)) 0)]),(.d (.fn 115)),(.f 195 [] [(.r (.old (o+3)) 0)]),(.d (.fn 136)),(.d (.fn 119)),(.f 138 [] [(.r (.old (o+2)) 0)])]
 else .a [(.d (.fn 139)),(.d (.fn 140)),(.d (.fn 141)),(.d (.fn 142)),(.d (.fn 143)),(.f 195 [] [(.r (.old (o+3)) 0)]),(.d (.fn 118)),(.d (.fn 144)),(.f 147 [] [(.r (.old (o+2)) 0)])]
def Ef (o:Nat):ah:=.box [(.d (.fn 133)),(.d (.fn 110)),(.d (.fn 111)),(.f 137 [] [(.r (.old (o+2)) 0)]),(.d (.fn 115)),(.f 195 [] [(.r (.old (o+3)) 0)]),(.d (.fn 136)),(.d (.fn 119)),(.f 138 [] [(.r (.old (o+2)) 0)])]
theorem UN (o n:Nat):ah.az n (Ef o)=Ef o:=by simp[Ef,ah.az,FV.az,FV.aP]
def bT (px:FV):ah:=.box [dB false,.d (.n 1),.d (.n 1),dI 0,dB false,.d (.v (.int .u64 0)),.d (.n 6),px]
def jM (px:FV)(L:List ah)(zs:List D):Prop:=(px=.d (.n 8)/\zs=[])\/∃ j ak,px=.ls (.loc j) ak 8 0 zs.length/\L[j]?=some (.row ak 8 zs)
def Y3:aF:=f43.body.r.r.l.r.bl.lp
def Mc (g iv iw:Nat)(ps:List Int)(i:Nat)(t:FV)(B L:List ah)(dt:Bool:=false):St :=
 {vars:=[.u,.f g [] [.r (.old iv) 0,.r (.old iw) 0],.u,rL 1,rL 2,.u,.u,.d (.s 1 (LK .i64 ps)),dI ps.length,dI i,t],base:=B,loc:=L,aS:=dt}
def Qc (k:Int):Nat:=if k=2 then 124 else if k=3 then 111 else 141
def GA (g iv iw:Nat)(vb wb:ah)(k:Int)(i:Nat)(z:W):Prop :=
 ∃ N,∀ (H:List ah) (o:Nat),H[iv]?=some vb->H[iw]?=some wb->(k=3->H[o+2]?=some (Ef o))->(k≠1->k≠5->H[o+3]?=some (.box [.d (.fn (Qc k))]))->∀ m,CL E1 (N+m) g [UM k o,dI i,.r (.old iv) 0,.r (.old iw) 0] H=some (.d z.d,none)
def wO (k:Int):FV × Option (List ah):=if k=1 then(rC,none) else if k=2 then(uT,some rD) else if k=3 then(uU,some rE) else if k=4 then(uV,some rF) else(rA,none)
theorem Oc {k:Int}(hk:single k=true):Ca E1 42 [dI k] (wO k):=by
 rcases aO hk with rfl|rfl|rfl|rfl|rfl
 ·exact Ca.ib (Ca.of BH)
 ·exact Ca.ib (Ca.of BJ)
 ·exact Ca.ib (Ca.of BK)
 ·exact Ca.ib (Ca.of BL)
 ·exact Ca.ib (Ca.of BI)
def Md (r:Nat->Ref)(k:Int)(o:Nat):List FV:=if k=2 then [(.d (.fn 122)),(.d (.fn 123)),(.d (.fn 124)),(.d (.fn 125)),(.d (.fn 127)),(.f 195 [] [(.r (r (o+3)) 0)]),(.d (.fn 126)),(.d (.fn 128)),(.f 131 [] [(.r (r (o+2)) 0)])] else if k=3 then [(.d (.fn 133)),(.d (.fn 110)),(.d (.fn 111)),(.f 137 [] [(.r (r (o+2)) 0)]),(.d (.fn 115)),(.f 195 [] [(.r (r (o+3)) 0)]),(.d (.fn 136)),(.d (.fn 119)),(.f 138 [] [(.r (r (o+2)) 0)])] else [(.d (.fn 139)),(.d (.fn 140)),(.d (.fn 141)),(.d (.fn 142)),(.d (.fn 143)),(.f 195 [] [(.r (r (o+3)) 0)]),(.d (.fn 118)),(.d (.fn 144)),(.f 147 [] [(.r (r (o+2)) 0)])]
def Jj (r:Nat->Ref)(k:Int)(o:Nat):List ah:=[.box (Md r k o),.box (Md r k o),.box (Md r k o),.box [.d (.fn (Qc k))]]
theorem UO (g iv iw:Nat)(ps:List Int)(i:Nat)(k:Int)(B L:List ah)(dt:Bool)(vb wb:ah)(px:FV)(zs:List D)(z:W)(hk:ps[i]?=some k)(hs:single k=true)(hn:ps.length<=3)
  (hv:B[iv]?=some vb) (hw:B[iw]?=some wb) (ov:∀ n,ah.az n vb=vb) (ow:∀ n,ah.az n wb=wb) (ah0:GA g iv iw vb wb k i z) (h1:L[1]?=some (bT (.d (.n 8)))) (h2:L[2]?=some (bT px)) (ho:jM px L zs) (hz:zs.length<=3) :
  ∃ tN L',Ex E1 Y3 (Mc g iv iw ps i .u B L dt) (.norm,Mc g iv iw ps (i+1) .u B L' dt)/\L'[1]?=some (bT (.d (.n 8)))/\L'[2]?=some (bT tN)/\jM tN L' (zs++[z.d]):=by
 obtain⟨N,t⟩:=ah0;have hvl:iv<B.length:=(bq hv)
 have hwl:iw<B.length:=(bq hw)
 have Qd:1<L.length:=(bq h1)
 have E_:2<L.length:=(bq h2)
 have hil:i<ps.length:=(bq hk)
 have n1:(LK .i64 ps).length=ps.length:=by simp[LK]
 have e1:(LK .i64 ps)[i]?=some (vI k):=by simp[LK,hk]
 have aR:ai .i64 ((i:Int)+1)=(i:Int)+1:=wrap_i64 ae;have hk1:((i+1:Nat):Int)=(i:Int)+1:=ae;have hk0:(0:Int)<=(i:Int):=ae;have hkc:(i:Int)<(ps.length:Int):=ae;obtain⟨UQ,Ed,Ee,zc,zb,zu,zp,E9,ez⟩:=z.aN;rw[ez]at t ⊢;unfold wD at*;have hvH:∀ L,(List.map (ah.az B.length) B++L)[iv]?=some vb:=fun L=>by rw[Qa0 (by simpa using hvl),Qb2,hv];exact congrArg some (ov _)
 have hwH:∀ L,(List.map (ah.az B.length) B++L)[iw]?=some wb:=fun L=>by rw[Qa0 (by simpa using hwl),Qb2,hw];exact congrArg some (ow _)
 obtain⟨K,t42⟩:=(Oc hs).any;obtain⟨M,hM⟩:∃ M,M=N+K:=⟨_,rfl⟩
 replace t42:=t42 M ae;have five:=aO hs;have g2:∀ X,(L++X)[2]?=some (bT px):=fun X=>by rw[Qa0 E_];exact h2
 have Qe:∀ {j ak} (hj:L[j]?=some (.row ak 8 zs)),j<L.length/\j≠2/\j≠1/\(∀ X,(L++X)[j]?=some (.row ak 8 zs))/\(∀ r,(L.set j r)[2]?=some (bT px))/\∀ r X,(L.set j r++X)[2]?=some (bT px):=fun {j ak} hj=>by
  have hjl:j<L.length:=(bq hj)
  have hj2:j≠2:=fun h=>by
   subst h;rw[h2]at hj;cases hj
  have s2:∀ r,(L.set j r)[2]?=some (bT px):=fun r=>by rw[Qd0 hj2];exact h2
  refine⟨hjl,hj2,fun h => ?_,fun X=>by rw[Qa0 hjl];exact hj,s2,fun r X=>by rw[Qa0 (by simpa using E_)];exact s2 r⟩;subst h;rw[h1]at hj;cases hj
 have m1:(zs.length+1)*128<=1099511627776:=ae;have m2:zs.length+1<=1099511627776:=ae
 by_cases hp:k=1\/k=5
 ·replace t:=fun m=>eT (t (List.map (ah.az B.length) B++List.map (ah.az B.length) L) (B.length+L.length) (hvH _) (hwH _) (fun h=>by omega) (fun _ _=>by omega) 0) (show N+0<=M+m by omega)
  rcases ho with ⟨rfl,rfl⟩|⟨j,ak,rfl,hj⟩
  ·refine⟨.ls (.loc L.length) 0 8 0 1,(L.set 2 (bT (.ls (.loc L.length) 0 8 0 1)))++[.row 0 8 [(.a [D.v (.bool UQ),.s 1 Ed,.s 1 Ee,vI zc,vB zb,.v (.int .u64 zu),.s 6 zp,.s 8 E9])]],Ex.of (n:=M+100) ?_,?_,?_,.inr ⟨L.length,0,rfl,aA⟩⟩
   ·unfold Mc;rw[hk1];clear hvH hwH ov ow hv hw h1 Qe;unfold bT at*;generalize LK .i64 ps=l1 at*;have i1:=idx e1;have i2:=idx h2;rcases hp with rfl|rfl
    all_goals
     simp[UM,wO,rC,Ec,rA]at t42 t;simp[Y3,f43,aR,hk0,hkc,hil,n1,i1,t42,t,FV.az,FV.aP,most,dV,gQ,checked,pQ,GD,i2,E_,g2]
   ·rw[Qa0 (by simpa using Qd),Qd0 ae];exact h1
   ·rw[Qa0 (by simpa using E_)];exact Qf0 E_
  ·obtain⟨hjl,hj2,hj1,gj,s2,s2X⟩:=Qe hj;refine⟨.ls (.loc j) (ak+1) 8 0 (zs.length+1),((L.set j (.row (ak+1) 8 (zs++[(.a [D.v (.bool UQ),.s 1 Ed,.s 1 Ee,vI zc,vB zb,.v (.int .u64 zu),.s 6 zp,.s 8 E9])]))).set 2 (bT (.ls (.loc j) (ak+1) 8 0 (zs.length+1)))),Ex.of (n:=M+100) ?_,?_,?_,.inr ⟨j,ak+1,aA,?_⟩⟩
   ·unfold Mc;rw[hk1];clear hvH hwH ov ow hv hw h1 Qe;unfold bT at*;generalize LK .i64 ps=l1 at*;have i1:=idx e1;have i2:=idx h2;have i3:=idx hj;have i4:∀ r (h:2<(L.set j r).length),(L.set j r)[2]=_:=fun r h=>idx (s2 r) h
    rcases hp with rfl|rfl
    all_goals
     simp[UM,wO,rC,Ec,rA]at t42 t;simp[Y3,f43,aR,hk0,hkc,hil,n1,i1,t42,t,FV.az,FV.aP,most,dV,gQ,checked,pQ,GD,Ref.abs,i2,i3,i4,E_,hjl,m1,m2]
   ·rw[Qd0 ae,Qd0 hj1];exact h1
   ·exact Qf0 (by simpa using E_)
   ·rw[Qd0 (fun h=>hj2 h.symm)];exact Qf0 hjl
 ·replace t:=fun m=>eT (t (List.map (ah.az B.length) B++(List.map (ah.az B.length) L++Jj .old k (B.length+L.length))) (B.length+L.length) (hvH _) (hwH _) (fun h=>by subst h;rw[Qc0 (by simp;omega)];simp;rw[Qc0 (by simp;omega)];simp;rw[show B.length+L.length+2-B.length-L.length=2 by omega];rfl) (fun _ _=>by rw[Qc0 (by simp;omega)];simp;rw[Qc0 (by simp;omega)];simp;rw[show B.length+L.length+3-B.length-L.length=3 by omega];rfl) 0) (show N+0<=M+m by omega)
  have hp':k=2\/k=3\/k=4:=ae;rcases ho with ⟨rfl,rfl⟩|⟨j,ak,rfl,hj⟩
  ·refine⟨.ls (.loc (L.length+4)) 0 8 0 1,(L.set 2 (bT (.ls (.loc (L.length+4)) 0 8 0 1)))++Jj .loc k L.length++[.row 0 8 [(.a [D.v (.bool UQ),.s 1 Ed,.s 1 Ee,vI zc,vB zb,.v (.int .u64 zu),.s 6 zp,.s 8 E9])]],Ex.of (n:=M+100) ?_,?_,?_,.inr ⟨(L.length+4),0,rfl,by simp[Jj]⟩⟩
   ·unfold Mc;rw[hk1];clear hvH hwH ov ow hv hw h1 Qe;unfold bT at*;generalize LK .i64 ps=l1 at*;have i1:=idx e1;have i2:=idx h2;rcases hp' with rfl|rfl|rfl
    all_goals
     simp[UM,wO,uT,pG,rD,uU,pI,rE,uV,pJ,rF,Jj,Md,Qc]at t42 t;simp only[Qu1]at t;simp[Y3,f43,aR,hk0,hkc,hil,n1,i1,t42,t,FV.az,FV.aP,FV.shift,FV.f_,ah.shift,ah.az,most,dV,gQ,checked,pQ,GD,i2,E_,Jj,Md,Qc]
   ·rw[Qp0,Qa0 (by simpa using Qd),Qd0 ae];exact h1
   ·rw[Qp0,Qa0 (by simpa using E_)];exact Qf0 E_
  ·obtain⟨hjl,hj2,hj1,gj,s2,s2X⟩:=Qe hj;refine⟨.ls (.loc j) (ak+1) 8 0 (zs.length+1),((L.set j (.row (ak+1) 8 (zs++[(.a [D.v (.bool UQ),.s 1 Ed,.s 1 Ee,vI zc,vB zb,.v (.int .u64 zu),.s 6 zp,.s 8 E9])]))).set 2 (bT (.ls (.loc j) (ak+1) 8 0 (zs.length+1))))++Jj .loc k L.length,Ex.of (n:=M+100) ?_,?_,?_,.inr ⟨j,ak+1,aA,?_⟩⟩
   ·unfold Mc;rw[hk1];clear hvH hwH ov ow hv hw h1 Qe;unfold bT at*;have i1:=idx e1;have i2:=idx h2;have i3:=idx hj;have i4:∀ r (h:2<(L.set j r).length),(L.set j r)[2]=_:=fun r h=>idx (s2 r) h
    rcases hp' with rfl|rfl|rfl
    all_goals
     simp[UM,wO,uT,pG,rD,uU,pI,rE,uV,pJ,rF,Jj,Md,Qc]at t42 t;simp only[Qu1]at t;simp[Y3,f43,aR,hk0,hkc,hil,n1,i1,t42,t,FV.az,FV.aP,FV.shift,FV.f_,ah.shift,ah.az,most,dV,gQ,checked,pQ,GD,Ref.abs,i2,i4,E_,hjl,gj,m1,m2,Jj,Md,Qc]
   ·rw[Qa0 (by simpa using Qd)];rw[Qd0 ae,Qd0 hj1];exact h1
   ·rw[Qa0 (by simpa using E_)];exact Qf0 (by simpa using E_)
   ·rw[Qa0 (by simpa using hjl)];rw[Qd0 (fun h=>hj2 h.symm)];exact Qf0 hjl
theorem pR {E:Env}{g:Nat}{F:bK}{args:List FV}{B:List ah}{o:Out}{st1:St}{r:FV × Option (List ah)}(hp:E.iV g=none)(hf:E.fn g=some F)(hl:args.length=F.np)
  (h:Ex E F.body {vars:=args++List.replicate (F.nv-F.np) .u,base:=B,loc:=[],aS:=false} (o,st1)) (ho:∀ id,o≠.exit id) (hr:finish F st1=some r):∃ N,∀ m,CL E (N+m) g args B=some r:=by
 obtain⟨n0,h⟩:=h;refine⟨n0,fun m => ?_⟩;rw[jy,AA hp hf hl,h (n0+m) ae];cases o with
 | exit id=>exact absurd rfl (ho id)
 | norm=>exact hr
 | ret=>exact hr
def fV (zs:List W):W:=.mk false [] [] 0 false 0 [] zs
theorem Y4 (g iv iw:Nat)(ps:List Int)(B:List ah)(vb wb:ah)(zs:List W)(hs:∀ k ∈ ps,single k=true)(hn:ps.length<=3)(hz:zs.length=ps.length)
  (hv:B[iv]?=some vb) (hw:B[iw]?=some wb) (ov:∀ n,ah.az n vb=vb) (ow:∀ n,ah.az n wb=wb) (hst:∀ i k z,ps[i]?=some k->zs[i]?=some z->GA g iv iw vb wb k i z)
  (L:List ah) (h1:L[1]?=some (bT (.d (.n 8)))) (h2:L[2]?=some (bT (.d (.n 8)))) :
  ∃ tN L',Ex E1 (.loop Y3) (Mc g iv iw ps 0 .u B L) (.exit 0,Mc g iv iw ps ps.length (dB false) B L')/\L'[1]?=some (bT (.d (.n 8)))/\L'[2]?=some (bT tN)/\jM tN L' (W.ds zs):=by
 obtain⟨r,hx,tN,L',rfl,h5,h3,h4⟩:=Ex.inv (E:=E1) (b:=Y3) (α:=Nat × FV × List ah) (S:=fun a=>Mc g iv iw ps a.1 .u B a.2.2) (fun a=>ps.length-a.1)
  (fun a=>a.1<=ps.length/\a.2.2[1]?=some (bT (.d (.n 8)))/\a.2.2[2]?=some (bT a.2.1)/\jM a.2.1 a.2.2 (W.ds (zs.take a.1)))
  (fun r=>∃ tN L',r=(.exit 0,Mc g iv iw ps ps.length (dB false) B L')/\L'[1]?=some (bT (.d (.n 8)))/\L'[2]?=some (bT tN)/\jM tN L' (W.ds zs)) (by
   rintro⟨i,px,L⟩ ⟨q1,q0,q2,q3⟩;simp only at q1 q0 q2 q3
   by_cases hi:i<ps.length
   ·have hk:ps[i]?=some ps[i]:=Qa1 hi;have hzi:zs[i]?=some (zs[i]'(by omega)):=Qa1 ae;have hlen:(W.ds (zs.take i)).length<=3:=by simp[W.h_];omega
    obtain⟨tN,L',g1,g0,g2,g3⟩:=UO g iv iw ps i ps[i] B L false vb wb px _ _ hk (hs _ (Qi0 hi)) hn hv hw ov ow (hst i _ _ hk hzi) q0 q2 q3 hlen;refine .inl ⟨(i+1,tN,L'),g1,by show ps.length-(i+1)<ps.length-i;omega,by show i+1<=_;omega,g0,g2,?_⟩;show jM tN L' (W.ds (zs.take (i+1)));rw[Q82,hzi];have e:W.ds (zs.take i++[zs[i]'(by omega)])=W.ds (zs.take i)++[(zs[i]'(by omega)).d]:=by simp only[W.h_,Qp2,Qe2,Qc1]
    show jM tN L' (W.ds (zs.take i++[zs[i]'(by omega)]));rw[e];exact g3
   ·obtain rfl:i=ps.length:=ae;rw[<-hz,Qn0]at q3;refine .inr ⟨_,Ex.of (n:=60) ?_,?_,px,L,rfl,q0,q2,q3⟩
    ·unfold Mc;generalize ps.length=n at*;simp[Y3,f43]
    ·simp) (0,.d (.n 8),L) ⟨Qy1 _,h1,h2,.inl ⟨rfl,rfl⟩⟩
 exact⟨tN,L',hx,h5,h3,h4⟩
theorem UR (g iv iw:Nat)(kk:Int)(ps:List Int)(B:List ah)(vb wb:ah)(zs:List W)(hs:∀ k ∈ ps,single k=true)(hn:ps.length<=3)(hz:zs.length=ps.length)
  (hv:B[iv]?=some vb) (hw:B[iw]?=some wb) (ov:∀ n,ah.az n vb=vb) (ow:∀ n,ah.az n wb=wb) (hst:∀ i k z,ps[i]?=some k->zs[i]?=some z->GA g iv iw vb wb k i z) :
  ∃ N,∀ m,CL E1 (N+m) 43 [.d (aT kk ps),.f g [] [.r (.old iv) 0,.r (.old iw) 0]] B=some (.d (fV zs).d,none):=by
 have n1:(LK .i64 ps).length=ps.length:=by simp[LK]
 have hA:Ex E1 f43.body.l {vars:=(.d (aT kk ps)::.f g [] [.r (.old iv) 0,.r (.old iw) 0]::NB),base:=B,loc:=[],aS:=false}
   (.norm,{vars:=(.u::.f g [] [.r (.old iv) 0,.r (.old iw) 0]::rL 0::rL 1::sO),base:=B,loc:=[.box [dI kk,.d (.s 1 (LK .i64 ps))],bT (.d (.n 8))],aS:=false}):=by
  apply e6;unfold aT bT;generalize LK .i64 ps=l1 at*;simp[f43]
 have hB := nx hA f43.body.r.l {vars:=(.u::.f g [] [.r (.old iv) 0,.r (.old iw) 0]::rL 0::rL 1::rL 2::qO),base:=B,loc:=[.box [dI kk,.d (.s 1 (LK .i64 ps))],bT (.d (.n 8)),bT (.d (.n 8))],aS:=false} (by
  apply e6;unfold bT;generalize LK .i64 ps=l1 at*;simp[f43])
 have hC := nx hB f43.body.r.r.l.l (Mc g iv iw ps 0 .u B [.box [dI kk,.d (.s 1 (LK .i64 ps))],bT (.d (.n 8)),bT (.d (.n 8))]) (by
  apply e6;unfold Mc bT;generalize LK .i64 ps=l1 at*;simp[f43,n1])
 obtain⟨px,L,hl,h1,h2,ho⟩:=Y4 g iv iw ps B vb wb zs hs hn hz hv hw ov ow hst [.box [dI kk,.d (.s 1 (LK .i64 ps))],bT (.d (.n 8)),bT (.d (.n 8))] rfl rfl;have hds:(fV zs).d=.a [vB false,.s 1 [],.s 1 [],vI 0,vB false,.v (.int .u64 0),.s 6 [],.s 8 (W.ds zs)]:=rfl;have Qd:1<L.length:=(bq h1)
 have hD:Ex E1 f43.body.r.r.r (Mc g iv iw ps ps.length (dB false) B L)
   (.ret,{vars:=(.u::.u::.u::rL 1::sO),base:=B,loc:=L.set 1 (bT px),aS:=false}):=by
  apply e6;unfold Mc bT at*;have i1:=idx h1;have i2:=idx h2;rcases ho with ⟨rfl,_⟩|⟨j,ak,rfl,_⟩
  ·simp[f43,h1,h2,i1,i2,Qd]
  ·simp[f43,h1,h2,i1,i2,Qd]
 refine pR (o:=.ret) (st1:={vars:=(.u::.u::.u::rL 1::sO),base:=B,loc:=L.set 1 (bT px),aS:=false}) rfl (aM 43 f43:E1.fn _=_) rfl ?_ (by intro id h;cases h) ?_
 ·show Ex E1 (.seq f43.body.l (.seq f43.body.r.l (.seq (.seq f43.body.r.r.l.l (.block 0 (.loop Y3))) f43.body.r.r.r))) _ _;exact hA.seq (hB.seq ((hC.seq hl.block).seq hD))
 ·rw[hds];unfold bT at*;have s1:∀ o,(L.set 1 o)[1]?=some o:=fun o=>Qf0 Qd
  rcases ho with ⟨rfl,e⟩|⟨j,ak,rfl,hj⟩
  ·rw[e];simp[f43,s1]
  ·have hj1:j≠1:=fun h=>by
    subst h;rw[h1]at hj;cases hj
   have sj:∀ o,(L.set 1 o)[j]?=some (.row ak 8 (W.ds zs)):=fun o=>by rw[Qd0 (fun h=>hj1 h.symm)];exact hj
   have ev:ah.view ak 8 0 (W.ds zs).length (.row ak 8 (W.ds zs))=some (W.ds zs):=by simp[ah.view]
   generalize W.ds zs=es at*;simp[f43,s1,sj,ev]
theorem Od {k:Int}{ps:List Int}(h:aK k ps=true)(n:Nat):CL E1 (n+500) 31 [.d (aT k ps)] []=some (dB true,none):=by
 have:=(Ca.ib (Ca.bP (pF 0 k ps)))
 have t:=pF n k ps;rw[h]at t;rw[jy]at t ⊢;exact rH uY (wF uY _) t
theorem sv1 {k:Int}(hk:single k=true):aK k []=true:=by
 rcases aO hk with rfl|rfl|rfl|rfl|rfl<;>rfl
section
section parts
variable (H:List ah) (iv iw i:Nat) (v0 v1 v2 v3 v4 v5 v6 w0 w1 w2 w3 w4 w5 w6:FV) (vs ws:List D) (x y z:W)
end parts
end
section
def Oe (k:Int):Nat:=if k=1 then 113 else if k=2 then 125 else if k=4 then 142 else 154
def Og (k:Int)(x y z:W):Prop :=
 ∃ N,(k=3->∀ (B:List ah) (j o:Nat),B[j]?=some (Ef o)->∀ m,CL E1 (N+m) 137 [.d x.d,.d y.d,.r (.old j) 0] B=some (.d z.d,none)) /\
  (k≠3->∀ m,CL E1 (N+m) (Oe k) [.d x.d,.d y.d] []=some (.d z.d,none))
section steps
variable {iv iw i:Nat} {v0 v1 v2 v3 v4 v5 v6 w0 w1 w2 w3 w4 w5 w6:FV} {vs ws:List D} {x y z:W} {k:Int}
theorem Qf (hk:single k=true)(h:Og k x y z)(hx:vs[i]?=some x.d)(hy:ws[i]?=some y.d):GA 45 iv iw (.box [v0,v1,v2,v3,v4,v5,v6,.d (.s 8 vs)]) (.box [w0,w1,w2,w3,w4,w5,w6,.d (.s 8 ws)]) k i z:=by
 obtain⟨N,t3,t⟩:=h;refine⟨N+100,fun H o hv hw h3 _ m => ?_⟩;rcases aO hk with rfl|rfl|rfl|rfl|rfl
 ·exact UL H iv iw i v0 v1 v2 v3 v4 v5 v6 w0 w1 w2 w3 w4 w5 w6 vs ws x y z hv hw hx hy 108 110 111 115 117 118 119 121 113 N (t cK) m
 ·exact UK H iv iw i v0 v1 v2 v3 v4 v5 v6 w0 w1 w2 w3 w4 w5 w6 vs ws x y z hv hw hx hy 122 123 124 127 195 126 128 131 (o+3) (o+2) 125 N (t cK) m
 ·exact acd H iv iw i v0 v1 v2 v3 v4 v5 v6 w0 w1 w2 w3 w4 w5 w6 vs ws x y z hv hw hx hy 133 110 111 115 195 136 119 138 (o+3) (o+2) (o+2) N (Ef o) (h3 rfl) (UN o) (fun B hB m=>t3 rfl B (o+2) o hB m) m
 ·exact UK H iv iw i v0 v1 v2 v3 v4 v5 v6 w0 w1 w2 w3 w4 w5 w6 vs ws x y z hv hw hx hy 139 140 141 143 195 118 144 147 (o+3) (o+2) 142 N (t cK) m
 ·exact UL H iv iw i v0 v1 v2 v3 v4 v5 v6 w0 w1 w2 w3 w4 w5 w6 vs ws x y z hv hw hx hy 149 151 152 156 158 118 160 163 154 N (t cK) m
end steps
theorem UT {k:Int}(hk:single k=true)(v w x y z:W)(hv:Ca E1 41 [.d (aT k []),.d v.d] (.d x.d,none))(hw:Ca E1 41 [.d (aT k []),.d w.d] (.d y.d,none))(h:Og k x y z):Ca E1 14 [.d (aT k []),.d v.d,.d w.d] (.d z.d,none):=by
 obtain⟨N3,t3,t⟩:=h;obtain⟨N1,t1⟩:=hv.any;obtain⟨N2,t2⟩:=hw.any;obtain⟨N4,t42⟩:=(Oc hk).any;obtain⟨K,hK⟩:∃ K,K=N1+N2+N4+N3+500:=⟨_,rfl⟩
 replace t1:=t1 K ae;replace t2:=t2 K ae;replace t42:=t42 K ae;replace t:=fun h m=>eT (t h 0) (show N3+0<=K+m by omega)
 replace t3:=fun h B j o hB m=>eT (t3 h B j o hB 0) (show N3+0<=K+m by omega)
 have t31:=fun m=>eT (Od (sv1 hk) 0) (show 0+500<=K+m by omega)
 obtain⟨vs,Qg,Qh,vc,vb,vu,vp,vps,ev⟩:=v.aN;obtain⟨ws,wl1,wl2,wc,wb,wu,wp,wps,ew⟩:=w.aN;obtain⟨xs,xl1,xl2,xc,xb,xu,xp,xps,ex⟩:=x.aN;obtain⟨ys,yl1,yl2,yc,yb,yu,yp,yps,ey⟩:=y.aN;obtain⟨zs,Ed,Ee,zc,zb,zu,zp,E9,ez⟩:=z.aN;simp only[ev,ew,ex,ey,ez]at t1 t2 t t3 ⊢;clear ev ew ex ey ez hK hv hw;refine Ca.bP (n:=K+100) ?_;rw[av rfl (k14:E1.fn _=_) rfl];unfold wD aT at*;simp only[show LK .i64 []=[] from rfl]at*;rcases aO hk with rfl|rfl|rfl|rfl|rfl
 ·replace t:=t cK;simp[Oe,wO,rC,Ec]at t42 t;simp[f14,t31,t1,t2,t42,t]
 ·replace t:=t cK;simp[Oe,wO,uT,pG,rD]at t42 t;simp[f14,t31,t1,t2,t42,t,FV.shift,FV.f_,ah.shift]
 ·replace t3:=t3 rfl [.box [dI 3,.d (.s 1 [])],.box [dB xs,.d (.s 1 xl1),.d (.s 1 xl2),dI xc,dB xb,.d (.v (.int .u64 xu)),.d (.s 6 xp),.d (.s 8 xps)],.box [dB ys,.d (.s 1 yl1),.d (.s 1 yl2),dI yc,dB yb,.d (.v (.int .u64 yu)),.d (.s 6 yp),.d (.s 8 yps)],bT (.d (.n 8)),Ef 4,Ef 4,Ef 4,.box [.d (.fn 111)]] 6 4 rfl;unfold Ef bT at t3;simp[wO,uU,pI,rE]at t42;simp[f14,t31,t1,t2,t42,t3,FV.az,FV.aP,FV.shift,FV.f_,ah.shift,ah.az]
 all_goals
  replace t:=t cK;simp[Oe,wO,uV,pJ,rF,rA]at t42 t;simp[f14,t31,t1,t2,t42,t,FV.shift,FV.f_,ah.shift]
def Jk (xs:List W):ah:=.box [dB false,.d (.s 1 []),.d (.s 1 []),dI 0,dB false,.d (.v (.int .u64 0)),.d (.s 6 []),.d (.s 8 (W.ds xs))]
theorem Jl (xs:List W)(n:Nat):ah.az n (Jk xs)=Jk xs:=by simp[Jk,ah.az,FV.aP,FV.az]
theorem rg6 {ps:List Int}(h:aK 6 ps=true):ps.length<=3/\2<=ps.length/\∀ k ∈ ps,single k=true:=by
 unfold aK at h;rw[if_neg aA]at h;simp only[Qb1,decide_eq_true_eq,Qh2]at h;exact⟨h.1.2,h.1.1,h.2⟩
theorem UU {ps:List Int}(hv:aK 6 ps=true)(v w:W)(xs ys zs:List W)(lx:xs.length=ps.length)(ly:ys.length=ps.length)(lz:zs.length=ps.length)
  (h1:Ca E1 41 [.d (aT 6 ps),.d v.d] (.d (fV xs).d,none)) (h2:Ca E1 41 [.d (aT 6 ps),.d w.d] (.d (fV ys).d,none))
  (h:∀ (i:Nat) (k:Int) (x y z:W),ps[i]?=some k->xs[i]?=some x->ys[i]?=some y->zs[i]?=some z->Og k x y z):Ca E1 14 [.d (aT 6 ps),.d v.d,.d w.d] (.d (fV zs).d,none):=by
 obtain⟨a1,a2,a3⟩:=rg6 hv;obtain⟨N3,t43⟩:=UR 45 1 2 6 ps [.box [dI 6,.d (.s 1 (LK .i64 ps))],Jk xs,Jk ys,bT (.d (.n 8))] (Jk xs) (Jk ys) zs a3 a1 lz rfl rfl (Jl xs) (Jl ys) (fun i k z hk hz=>by
  have hi:i<ps.length:=(bq hk)
  have hx:xs[i]?=some (xs[i]'(by omega)):=Qa1 (show i<xs.length by omega);have hy:ys[i]?=some (ys[i]'(by omega)):=Qa1 (show i<ys.length by omega);exact Qf (a3 k (Qa2 hk)) (h i k _ _ z hk hx hy hz) (by rw[W.h_,Qb2,hx];rfl) (by rw[W.h_,Qb2,hy];rfl))
 obtain⟨N1,t1⟩:=h1.any;obtain⟨N2,t2⟩:=h2.any;obtain⟨N,hN⟩:∃ N,N=N1+N2+N3+500:=⟨_,rfl⟩
 replace t1:=t1 N ae;replace t2:=t2 N ae;replace t43:=fun m=>eT (t43 0) (show N3+0<=N+m by omega)
 have t31:=fun m=>eT (Od hv 0) (show 0+500<=N+m by omega)
 obtain⟨vs,Qg,Qh,vc,vb,vu,vp,vps,ev⟩:=v.aN;obtain⟨ws,wl1,wl2,wc,wb,wu,wp,wps,ew⟩:=w.aN;have ex:∀ zs:List W,(fV zs).d=.a [vB false,.s 1 [],.s 1 [],vI 0,vB false,.v (.int .u64 0),.s 6 [],.s 8 (W.ds zs)]:=fun _=>rfl
 rw[ev,ex]at t1;rw[ew,ex]at t2;rw[ex]at t43;rw[ev,ew,ex];unfold wD aT Jk bT at*;clear ev ew ex hN h h1 h2 a1 a2 a3 lx ly lz hv;refine Ca.bP (n:=N+100) ?_;rw[av rfl (k14:E1.fn _=_) rfl];generalize W.ds xs=x1,W.ds ys=x2,W.ds zs=x3 at*;simp[f14,t31,t1,t2,t43,FV.az,FV.aP,ah.az]
end
def dH (k:Int):Sv:=if k=2 then .c true 0 else if k=4 then .s 0 else if k=5 then .p [] else .q 0
theorem UW {k:Int}(hk:single k=true)(S M:Nat)(hS:1<=S):(dH k).of k S M:=by
 rcases aO hk with rfl|rfl|rfl|rfl|rfl
 ·exact⟨.inl rfl,Qc2 jJ hS⟩
 ·exact⟨rfl,cK,cK,fun _=>rfl⟩
 ·exact⟨.inr ⟨rfl,cK,cK⟩,Qc2 jJ hS⟩
 ·exact⟨rfl,cK,cK⟩
 ·exact⟨rfl,PV.nil S,Qy1 _⟩
theorem Jm {k:Int}(hk:single k=true){S M:Nat}(hS:S<=1000)(hM:(M+M)*(S+1)<=50000){x y:Sv}(hx:x.of k S M)(hy:y.of k S M):Og k x.w y.w (dF k x y).w:=by
 rcases aO hk with rfl|rfl|rfl|rfl|rfl
 ·cases x with
  | q x=>cases y with
   | q y =>
    obtain⟨N,t⟩:=(UD x y (by have:=hx.2;omega) (by have:=hy.2;omega)).get;exact⟨N,fun h=>absurd h cK,fun _=>t⟩
   | c j m=>exact absurd hy.1 cK
   | s v=>exact absurd hy.1 cK
   | p b=>exact absurd hy.1 cK
  | c i n=>exact absurd hx.1 cK
  | s u=>exact absurd hx.1 cK
  | p a=>exact absurd hx.1 cK
 ·cases x with
  | c i n=>cases y with
   | c j m =>
    obtain⟨N,t⟩:=(UF i j n m).get;exact⟨N,fun h=>absurd h cK,fun _=>t⟩
   | q y=>rcases hy.1 with h | h;exact absurd h cK;exact absurd h.1 cK
   | s v=>exact absurd hy.1 cK
   | p b=>exact absurd hy.1 cK
  | q x=>rcases hx.1 with h | h;exact absurd h cK;exact absurd h.1 cK
  | s u=>exact absurd hx.1 cK
  | p a=>exact absurd hx.1 cK
 ·cases x with
  | q x=>cases y with
   | q y =>
    obtain⟨N,t⟩:=Qb x y (by have:=hx.2;omega) (by have:=hy.2;omega);exact⟨N,fun _ B j o hB m=>t B j _ _ _ _ _ _ _ _ hB m,fun h=>absurd rfl h⟩
   | c j m=>exact absurd hy.1 cK
   | s v=>exact absurd hy.1 cK
   | p b=>exact absurd hy.1 cK
  | c i n=>exact absurd hx.1 cK
  | s u=>exact absurd hx.1 cK
  | p a=>exact absurd hx.1 cK
 ·cases x with
  | s u=>cases y with
   | s v =>
    obtain⟨N,t⟩:=(UG u v).get;exact⟨N,fun h=>absurd h cK,fun _=>t⟩
   | q y=>rcases hy.1 with h | h;exact absurd h cK;exact absurd h.1 cK
   | c j m=>exact absurd hy.1 cK
   | p b=>exact absurd hy.1 cK
  | q x=>rcases hx.1 with h | h;exact absurd h cK;exact absurd h.1 cK
  | c i n=>exact absurd hx.1 cK
  | p a=>exact absurd hx.1 cK
 ·cases x with
  | p a=>cases y with
   | p b =>
    have h1:(a++b).length*(S+1)<=50000:=by
     have:=hx.2.2;have:=hy.2.2;refine Qc2 (Qe0 _ ?_) hM;rw[Qb0];omega
    obtain⟨N,t⟩:=(UI hx.2.1 hy.2.1 hS h1).get;exact⟨N,fun h=>absurd h cK,fun _=>t⟩
   | q y=>rcases hy.1 with h | h;exact absurd h cK;exact absurd h.1 cK
   | c j m=>exact absurd hy.1 cK
   | s v=>exact absurd hy.1 cK
  | q x=>rcases hx.1 with h | h;exact absurd h cK;exact absurd h.1 cK
  | c i n=>exact absurd hx.1 cK
  | s u=>exact absurd hx.1 cK
inductive W.Sm (S:Nat):W->Prop
 | mk {s:Bool} {a b:List Nat} {c:Int} {i:Bool} {u:Int} {p:List Mo} {ps:List W} (ha:bY a) (hb:bY b) (la:a.length<=S) (lb:b.length<=S) (hp:∀ m ∈ p,bY m.a/\bY m.b/\m.a.length<=S/\m.b.length<=S) (hu:z_ u)
   (h:∀ w ∈ ps,W.Sm S w):W.Sm S (.mk s a b c i u p ps)
theorem GG:q0 false [] []=true:=rfl
theorem UX {k:Int}{S M:Nat}{x:Sv}(h:x.of k S M):fO k x.w=true:=by
 cases x with
 | q x =>
  obtain⟨h1,h2⟩:=h;have hv:=sS x;rcases h1 with rfl|⟨rfl,h0,h1⟩
  ·simp[fO,Sv.w,hv]
  ·have e:cz (qs x) (qn x) (qd x)=x:=q9 x;have h3:(0:Int)<=x.num.sign:=Int.sign_nonneg_iff.2 (Rat.num_nonneg.2 h0);have h4:¬ (1:Rat)<x:=by grind
   simp[fO,Sv.w,hv,e,h3,h4]
 | c i n =>
  obtain⟨rfl,h1,h2,h3⟩:=h;cases i with
  | false=>simp[fO,Sv.w,h1,h2,GG]
  | true =>
   have:=h3 rfl;subst this;simp[fO,Sv.w,GG]
 | s u =>
  obtain⟨rfl,_⟩:=h;simp[fO,Sv.w,GG]
 | p l =>
  obtain⟨rfl,h1,_⟩:=h;have:=Ay h1 (q:=none) (fun m hm=>by cases hm);simp[fO,Sv.w,GG,this]
theorem UY {k:Int}{S M:Nat}{x:Sv}(h:x.of k S M)(hS:S<=1000):x.w.OK:=by
 have hl:bY []:=fun _ h=>(by cases h)
 have hp0:Po []:=⟨fun _ h=>(by cases h),aA⟩
 have hw0:∀ w ∈ ([]:List W),w.OK:=fun _ h=>(by cases h)
 cases x with
 | q x =>
  have h1:(qn x).length<=qz x:=Q01 _ _;have h2:(qd x).length<=qz x:=by
   unfold qd;split
   ·simp
   ·exact Qz2 _ _
  have:=h.2;exact .mk (Gi x) (Gj x) ae ae hp0 aA hw0
 | c i n=>exact .mk hl hl aA aA hp0 aA hw0
 | s u=>exact .mk hl hl aA aA hp0 aA hw0
 | p l=>exact .mk hl hl aA aA (Uq h.2.1 hS) aA hw0
theorem Y5 (u v:Int):z_ (Ba .u64 u v):=by
 have h:=Go.wf_wrap .u64 ((BitVec.ofInt 64 u ||| BitVec.ofInt 64 v).toNat:Int);simp only[Lit.wf,Qb1,decide_eq_true_eq]at h;have e1:IntKind.min .u64=0:=by rfl
 have e2:IntKind.max .u64=18446744073709551615:=by rfl
 rw[e1,e2]at h;have e3:Ba .u64 u v=IntKind.wrap .u64 ((BitVec.ofInt 64 u ||| BitVec.ofInt 64 v).toNat:Int):=xY ..;rw[e3];unfold z_;omega
theorem Qi (a:List a_):gN a []=[]:=by
 induction a with
 | nil=>rfl
 | cons p r ih =>
  have:gN (p::r) []=rM p []++gN r []:=by simp[gN]
  rw[this,ih];rfl
theorem Me {k:Int}(hk:single k=true){S M:Nat}{x:Sv}(hx:x.of k S M):dn x (dH k)=dH k:=by
 rcases aO hk with rfl|rfl|rfl|rfl|rfl
 ·cases x with
  | q x=>show Sv.q (x*0)=.q 0;rw[Rat.mul_zero]
  | c i n=>exact absurd hx.1 cK
  | s u=>exact absurd hx.1 cK
  | p a=>exact absurd hx.1 cK
 ·cases x with
  | c i n =>
   show(if i||(true||decide (1099511627776<n+0)) then Sv.c true 0 else .c false (n+0))=.c true 0;simp
  | q x=>rcases hx.1 with h | h;exact absurd h cK;exact absurd h.1 cK
  | s u=>exact absurd hx.1 cK
  | p a=>exact absurd hx.1 cK
 ·cases x with
  | q x=>show Sv.q (x*0)=.q 0;rw[Rat.mul_zero]
  | c i n=>exact absurd hx.1 cK
  | s u=>exact absurd hx.1 cK
  | p a=>exact absurd hx.1 cK
 ·cases x with
  | s u =>
   show Sv.s (jH .u64 u 0)=.s 0;have:jH .u64 u 0=0:=by
    rw[sW];have h0:BitVec.ofInt (IntKind.bits .u64) 0=0#(IntKind.bits .u64):=rfl;rw[h0,BitVec.and_zero];rfl
   rw[this]
  | q x=>rcases hx.1 with h | h;exact absurd h cK;exact absurd h.1 cK
  | c i n=>exact absurd hx.1 cK
  | p a=>exact absurd hx.1 cK
 ·cases x with
  | p a =>
   show Sv.p (iJ a [])=.p [];have:iJ a []=[]:=by
    unfold iJ;rw[Qi];simp[canon,gM]
   rw[this]
  | q x=>rcases hx.1 with h | h;exact absurd h cK;exact absurd h.1 cK
  | c i n=>exact absurd hx.1 cK
  | s u=>exact absurd hx.1 cK
theorem GH {k:Int}{ps:List Int}(hl:ps.length<=1000000){w:W}(hw:w.OK)(h:cZ k ps w=true):Ca E1 41 [.d (aT k ps),.d w.d] (.d w.d,none):=by
 have t0:=BN k ps w hl hw;rw[h]at t0;obtain⟨N,t⟩:=(Ca.ib t0).get;obtain⟨vs,Qg,Qh,vc,vb,vu,vp,vps,ev⟩:=w.aN;rw[ev]at t ⊢;refine Ca.bP (n:=N+60) ?_;rw[av rfl (aM 41 f41:E1.fn _=_) rfl];unfold wD aT at*;clear ev t0;simp[f41,t]
end Fi.S
