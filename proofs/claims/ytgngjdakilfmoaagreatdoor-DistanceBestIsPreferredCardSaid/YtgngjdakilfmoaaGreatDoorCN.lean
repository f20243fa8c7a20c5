import Derived.Test.YtgngjdakilfmoaaGreatDoorCL
set_option linter.unusedVariables false
set_option linter.unusedSimpArgs false
noncomputable section
namespace Fi.S
open Go Fi
set_option maxHeartbeats 8000000
inductive Sv where
 | q (x:Rat)
 | c (i:Bool) (n:Int)
 | s (u:Int)
 | p (l:List aS)
def Sv.w:Sv->W
 | .q x=>.mk (qs x) (qn x) (qd x) 0 false 0 [] []
 | .c i n=>.mk false [] [] n i 0 [] []
 | .s u=>.mk false [] [] 0 false u [] []
 | .p l=>.mk false [] [] 0 false 0 (l.map vC) []
def Sv.of (k:Int)(S M:Nat):Sv->Prop
 | .q x=>(k=1\/(k=3/\0<=x/\x<=1))/\qz x<=S
 | .c i n=>k=2/\0<=n/\n<=1099511627776/\(i=true->n=0)
 | .s u=>k=4/\A9 u
 | .p l=>k=5/\PV S l/\l.length<=M
theorem Sv.of.mono {k:Int}{S T M M':Nat}{x:Sv}(h:x.of k S M)(hST:S<=T)(hM:M<=M'):x.of k T M':=by
 cases x with
 | q x=>exact⟨h.1,Qc1 h.2 hST⟩
 | c i n=>exact h
 | s u=>exact h
 | p l=>exact⟨h.1,h.2.1.mono hST,Qc1 h.2.2 hM⟩
def jd (i:Bool)(n:Int)(j:Bool)(m:Int):Bool := !i&&(j||decide (n<m))
noncomputable def dn (k:Int):Sv->Sv->Sv
 | .q x,.q y=>if k=3 then(if x<y then .q y else .q x) else .q (x+y)
 | .c i n,.c j m=>if jd j m i n then .c j m else .c i n
 | .s u,.s v=>.s (BU .u64 u v)
 | .p a,.p b=>.p (fK a b)
 | x,_=>x
noncomputable def cK:Sv->Sv->Sv
 | .q x,.q y=>.q (x*y)
 | .c i n,.c j m=>if i||(j||decide (1099511627776<n+m)) then .c true 0 else .c false (n+m)
 | .s u,.s v=>.s (nY .u64 u v)
 | .p a,.p b=>.p (dM a b)
 | x,_=>x
theorem F7 (x y:Rat)(hx:qz x<=100000)(hy:qz y<=100000):Ca E1 115 [.d (Sv.q x).w.d,.d (Sv.q y).w.d] (.d (Sv.q (x*y)).w.d,none):=by
 obtain⟨N,t⟩:=(Ca.gM (O3 x y hx hy)).get;refine Ca.bQ (n:=N+60) ?_;rw[aA rfl (aO 115 f115:E1.fn _=_) rfl];generalize x*y=z at*;simp only[Sv.w,W.d,W.ds,PD,qD,raw,LD,Qc2]at*;generalize qs x=s1,qs y=s2,qs z=s3,LL (qn x)=x1,LL (qd x)=x2,LL (qn y)=y1,LL (qd y)=y2,LL (qn z)=z1,LL (qd z)=z2 at*;simp[f115,t]
theorem Kk (i j:Bool)(n m:Int):Ca E1 126 [.d (Sv.c i n).w.d,.d (Sv.c j m).w.d] (dB (jd i n j m),none):=by
 refine Ca.bQ (n:=60) ?_;rw[aA rfl (aO 126 f126:E1.fn _=_) rfl];simp only[Sv.w,W.d,W.ds,PD,LD,LL,Qc2,jd]at*;cases i<;>cases j<;>by_cases h:n<m<;>simp[f126,h]
theorem VQ (i j:Bool)(n m:Int):Ca E1 125 [.d (Sv.c i n).w.d,.d (Sv.c j m).w.d] (.d (dn 2 (.c i n) (.c j m)).w.d,none):=by
 obtain⟨N,t⟩:=(Kk j i m n).get;refine Ca.bQ (n:=N+60) ?_;rw[aA rfl (aO 125 f125:E1.fn _=_) rfl];have e:dn 2 (.c i n) (.c j m)=if jd j m i n then .c j m else .c i n:=rfl
 rw[e];clear e;generalize jd j m i n=b at*;cases b
 ·simp only[Sv.w,W.d,W.ds,PD,LD,LL,Qc2,Qh1,if_false]at*;simp[f125,t]
 ·simp only[Sv.w,W.d,W.ds,PD,LD,LL,Qc2,if_true]at*;simp[f125,t]
theorem Rf (i j:Bool)(n m:Int)(hn:0<=n/\n<=1099511627776)(hm:0<=m/\m<=1099511627776):Ca E1 127 [.d (Sv.c i n).w.d,.d (Sv.c j m).w.d] (.d (cK (.c i n) (.c j m)).w.d,none):=by
 have w1:ak .i64 (n+m)=n+m:=wrap_i64 ae;refine Ca.bQ (n:=60) ?_;rw[aA rfl (aO 127 f127:E1.fn _=_) rfl];unfold cK;cases i<;>cases j<;>by_cases h:1099511627776<n+m<;>simp[f127,h,w1,Sv.w,W.d,W.ds,PD,LD,LL]
theorem VT (x:Rat):0<x.num↔0<x:=by
 have h:=@Rat.num_nonneg (-x);have e:(-x).num=-x.num:=aC;rw[e]at h;have h1:0<x.num↔¬ 0<=-x.num:=ae;have h2:0<x↔¬ 0<=-x:=by grind
 rw[h1,h2,h]
theorem Dq (x y:Rat)(hx:qz x<=100000)(hy:qz y<=100000):Ca E1 136 [.d (Sv.q x).w.d,.d (Sv.q y).w.d] (dB (decide (y<x)),none):=by
 obtain⟨N,t⟩:=(Ca.gM (z8 x y hx hy)).get;refine Ca.bQ (n:=N+60) ?_;rw[aA rfl (aO 136 f136:E1.fn _=_) rfl];have hs:decide ((0:Int)<(x-y).num.sign)=decide (y<x):=by
  rw[decide_eq_decide,Int.sign_pos_iff,VT];grind
 rw[<-hs];generalize (x-y).num.sign=z at*;simp only[Sv.w,W.d,W.ds,PD,qD,raw,LD,Qc2]at*;generalize qs x=s1,qs y=s2,LL (qn x)=x1,LL (qd x)=x2,LL (qn y)=y1,LL (qd y)=y2 at*;simp[f136,t,LL]
theorem Rk (x y:Rat)(hx:qz x<=90000)(hy:qz y<=90000) :
  ∃ N,∀ (B:List ah) (j:Nat) (c0 c1 c2 c3 c4 c5 c7 c8:FV),B[j]?=some (.box [c0,c1,c2,c3,c4,c5,.d (.fn 136),c7,c8])->∀ k,CL E1 (N+k) 137 [.d (Sv.q x).w.d,.d (Sv.q y).w.d,.r (.old j) 0] B=some (.d (dn 3 (.q x) (.q y)).w.d,none):=by
 have hz:=jD;have hxy:dn 3 (.q x) (.q y)=.q ((if x<y then y else x)+0):=by
  have e:dn 3 (.q x) (.q y)=if x<y then .q y else .q x:=rfl
  have e2:∀ z:Rat,z+0=z:=fun z=>Rat.add_zero z
  rw[e,e2];split<;>rfl
 rw[hxy];obtain⟨M,hM,t1,t2⟩:=((Dq y x ae ae).j ((Ca.gM (Bn (if x<y then y else x) 0 (by split<;>omega) ae)).any)).at 0;refine⟨M+100,fun B j c0 c1 c2 c3 c4 c5 c7 c8 hB k => ?_⟩;have hjl:j<B.length:=(aT hB)
 have J3:∀ L,(B++L)[j]?=some (.box [c0,c1,c2,c3,c4,c5,.d (.fn 136),c7,c8]):=fun L=>by rw[Qa0 hjl];exact hB
 replace t1:=fun m=>t1 (k+m)
 replace t2:=fun m=>t2 (k+m)
 simp only[<-Qr0]at t1 t2;rw[show M+100+k=M+k+100 by omega];generalize M+k=m at*;rw[uE]at t2;rw[aA rfl (aO 137 f137:E1.fn _=_) rfl]
 by_cases h:x<y
 ·rw[if_pos h]at t2 ⊢;rw[decide_eq_true h]at t1;generalize y+0=z at*;simp only[Sv.w,W.d,W.ds,PD,qD,raw,LD,Qc2]at*;generalize qs x=s1,qs y=s2,qs z=s3,LL (qn x)=x1,LL (qd x)=x2,LL (qn y)=y1,LL (qd y)=y2,LL (qn z)=z1,LL (qd z)=z2 at*;simp[f137,t1,t2,J3,LL]
 ·rw[if_neg h]at t2 ⊢;rw[decide_eq_false h]at t1;generalize x+0=z at*;simp only[Sv.w,W.d,W.ds,PD,qD,raw,LD,Qc2]at*;generalize qs x=s1,qs y=s2,qs z=s3,LL (qn x)=x1,LL (qd x)=x2,LL (qn y)=y1,LL (qd y)=y2,LL (qn z)=z1,LL (qd z)=z2 at*;simp[f137,t1,t2,J3,LL]
section
def wD (s:Bool)(l1 l2:List D)(c:Int)(b:Bool)(u:Int)(p ps:List D):D:=.a [vB s,.s 1 l1,.s 1 l2,vI c,vB b,.v (.int .u64 u),.s 6 p,.s 8 ps]
theorem W.aH (w:W):∃ s l1 l2 c b u p ps,w.d=wD s l1 l2 c b u p ps:=by
 obtain⟨s,a,b,c,i,u,p,ps⟩:=w;exact⟨s,LL a,LL b,c,i,u,p.map Mo.d,W.ds ps,rfl⟩
section parts
variable (H:List ah) (iv iw i:Nat) (v0 v1 v2 v3 v4 v5 v6 w0 w1 w2 w3 w4 w5 w6:FV) (vs ws:List D) (x y z:W)
end parts
end
def Ff (o:Nat):ah:=.box [(.d (.fn 133)),(.d (.fn 110)),(.d (.fn 111)),(.f 137 [] [(.r (.old (o+2)) 0)]),(.d (.fn 115)),(.f 195 [] [(.r (.old (o+3)) 0)]),(.d (.fn 136)),(.d (.fn 119)),(.f 138 [] [(.r (.old (o+2)) 0)])]
def bU (px:FV):ah:=.box [dB false,.d (.n 1),.d (.n 1),dI 0,dB false,.d (.v (.int .u64 0)),.d (.n 6),px]
def tu (k:Int):FV × Option (List ah):=if k=1 then(oP,none) else if k=2 then(qF,some oQ) else if k=3 then(qG,some oU) else if k=4 then(qH,some oV) else(oO,none)
theorem BB {k:Int}(hk:single k=true):Ca E1 42 [dI k] (tu k):=by
 rcases aN hk with rfl|rfl|rfl|rfl|rfl
 ·exact Ca.gM (Ca.of Cy)
 ·exact Ca.gM (Ca.of CJ)
 ·exact Ca.gM (Ca.of CK)
 ·exact Ca.gM (Ca.of CU)
 ·exact Ca.gM (Ca.of Cz)
theorem qN {E:Env}{g:Nat}{F:bO}{args:List FV}{B:List ah}{o:Out}{st1:St}{r:FV × Option (List ah)}(hp:E.jq g=none)(hf:E.fn g=some F)(hl:args.length=F.np)
  (h:Ex E F.body {vars:=args++List.replicate (F.nv-F.np) .u,base:=B,loc:=[],aX:=false} (o,st1)) (ho:∀ id,o≠.exit id) (hr:finish F st1=some r):∃ N,∀ m,CL E (N+m) g args B=some r:=by
 obtain⟨n0,h⟩:=h;refine⟨n0,fun m => ?_⟩;rw[jS,Hy hp hf hl,h (n0+m) ae];cases o with
 | exit id=>exact absurd rfl (ho id)
 | norm=>exact hr
 | ret=>exact hr
def fG (zs:List W):W:=.mk false [] [] 0 false 0 [] zs
theorem xK {k:Int}{ps:List Int}(h:aM k ps=true)(n:Nat):CL E1 (n+500) 31 [.d (aU k ps)] []=some (dB true,none):=by
 have:=(Ca.gM (Ca.bQ (qE 0 k ps)))
 have t:=qE n k ps;rw[h]at t;rw[jS]at t ⊢;exact sU vY (xB vY _) t
theorem sv1 {k:Int}(hk:single k=true):aM k []=true:=by
 rcases aN hk with rfl|rfl|rfl|rfl|rfl<;>rfl
section
section parts
variable (H:List ah) (iv iw i:Nat) (v0 v1 v2 v3 v4 v5 v6 w0 w1 w2 w3 w4 w5 w6:FV) (vs ws:List D) (x y z:W)
end parts
end
section
def Pn (k:Int):Nat:=if k=1 then 113 else if k=2 then 125 else if k=4 then 142 else 154
def V5 (k:Int):Nat:=if k=1 then 115 else if k=2 then 127 else if k=3 then 115 else if k=4 then 143 else 156
def Pp (k:Int)(x y z:W):Prop :=
 ∃ N,(k=3->∀ (B:List ah) (j o:Nat),B[j]?=some (Ff o)->∀ m,CL E1 (N+m) 137 [.d x.d,.d y.d,.r (.old j) 0] B=some (.d z.d,none)) /\
  (k≠3->∀ m,CL E1 (N+m) (Pn k) [.d x.d,.d y.d] []=some (.d z.d,none))
def Du (k:Int)(x y z:W):Prop:=Ca E1 (V5 k) [.d x.d,.d y.d] (.d z.d,none)
section steps
variable {iv iw i:Nat} {v0 v1 v2 v3 v4 v5 v6 w0 w1 w2 w3 w4 w5 w6:FV} {vs ws:List D} {x y z:W} {k:Int}
end steps
theorem V6 {k:Int}(hk:single k=true)(v w x y z:W)(hv:Ca E1 41 [.d (aU k []),.d v.d] (.d x.d,none))(hw:Ca E1 41 [.d (aU k []),.d w.d] (.d y.d,none))(h:Pp k x y z):Ca E1 14 [.d (aU k []),.d v.d,.d w.d] (.d z.d,none):=by
 obtain⟨N3,t3,t⟩:=h;obtain⟨N1,t1⟩:=hv.any;obtain⟨N2,t2⟩:=hw.any;obtain⟨N4,t42⟩:=(BB hk).any;obtain⟨K,hK⟩:∃ K,K=N1+N2+N4+N3+500:=⟨_,rfl⟩
 replace t1:=t1 K ae;replace t2:=t2 K ae;replace t42:=t42 K ae;replace t:=fun h m=>dC (t h 0) (show N3+0<=K+m by omega)
 replace t3:=fun h B j o hB m=>dC (t3 h B j o hB 0) (show N3+0<=K+m by omega)
 have t31:=fun m=>dC (xK (sv1 hk) 0) (show 0+500<=K+m by omega)
 obtain⟨vs,Hz,HV,vc,vb,vu,vp,Rp,ev⟩:=v.aH;obtain⟨ws,TC,TD,wc,wb,wu,wp,TE,ew⟩:=w.aH;obtain⟨xs,Y6,Y7,xc,xb,xu,xp,xps,ex⟩:=x.aH;obtain⟨ys,TA,TB,yc,yb,yu,yp,yps,ey⟩:=y.aH;obtain⟨zs,wS,wT,zc,zb,zu,zp,BA,ez⟩:=z.aH;simp only[ev,ew,ex,ey,ez]at t1 t2 t t3 ⊢;clear ev ew ex ey ez hK hv hw;refine Ca.bQ (n:=K+100) ?_;rw[aA rfl (aO 14 f14:E1.fn _=_) rfl];unfold wD aU at*;simp only[show LK .i64 []=[] from rfl]at*;rcases aN hk with rfl|rfl|rfl|rfl|rfl
 ·replace t:=t bS;simp[Pn,tu,oP,A8]at t42 t;simp[f14,t31,t1,t2,t42,t]
 ·replace t:=t bS;simp[Pn,tu,qF,nA,oQ]at t42 t;simp[f14,t31,t1,t2,t42,t,FV.shift,FV.gD,ah.shift]
 ·replace t3:=t3 rfl [.box [dI 3,.d (.s 1 [])],.box [dB xs,.d (.s 1 Y6),.d (.s 1 Y7),dI xc,dB xb,.d (.v (.int .u64 xu)),.d (.s 6 xp),.d (.s 8 xps)],.box [dB ys,.d (.s 1 TA),.d (.s 1 TB),dI yc,dB yb,.d (.v (.int .u64 yu)),.d (.s 6 yp),.d (.s 8 yps)],bU (.d (.n 8)),Ff 4,Ff 4,Ff 4,.box [.d (.fn 111)]] 6 4 rfl;unfold Ff bU at t3;simp[tu,qG,nC,oU]at t42;simp[f14,t31,t1,t2,t42,t3,FV.az,FV.aP,FV.shift,FV.gD,ah.shift,ah.az]
 all_goals
  replace t:=t bS;simp[Pn,tu,qH,nD,oV,oO]at t42 t;simp[f14,t31,t1,t2,t42,t,FV.shift,FV.gD,ah.shift]
theorem Rq {k:Int}(hk:single k=true)(v w x y z:W)(hv:Ca E1 41 [.d (aU k []),.d v.d] (.d x.d,none))(hw:Ca E1 41 [.d (aU k []),.d w.d] (.d y.d,none))(h:Du k x y z):Ca E1 13 [.d (aU k []),.d v.d,.d w.d] (.d z.d,none):=by
 obtain⟨N3,t⟩:=Ca.get h;obtain⟨N1,t1⟩:=hv.any;obtain⟨N2,t2⟩:=hw.any;obtain⟨N4,t42⟩:=(BB hk).any;obtain⟨K,hK⟩:∃ K,K=N1+N2+N4+N3+500:=⟨_,rfl⟩
 replace t1:=t1 K ae;replace t2:=t2 K ae;replace t42:=t42 K ae;replace t:=fun m=>dC (t 0) (show N3+0<=K+m by omega)
 have t31:=fun m=>dC (xK (sv1 hk) 0) (show 0+500<=K+m by omega)
 obtain⟨vs,Hz,HV,vc,vb,vu,vp,Rp,ev⟩:=v.aH;obtain⟨ws,TC,TD,wc,wb,wu,wp,TE,ew⟩:=w.aH;obtain⟨xs,Y6,Y7,xc,xb,xu,xp,xps,ex⟩:=x.aH;obtain⟨ys,TA,TB,yc,yb,yu,yp,yps,ey⟩:=y.aH;obtain⟨zs,wS,wT,zc,zb,zu,zp,BA,ez⟩:=z.aH;simp only[ev,ew,ex,ey,ez]at t1 t2 t ⊢;clear ev ew ex ey ez hK hv hw h;refine Ca.bQ (n:=K+100) ?_;rw[aA rfl (aO 13 f13:E1.fn _=_) rfl];unfold wD aU at*;simp only[show LK .i64 []=[] from rfl]at*;rcases aN hk with rfl|rfl|rfl|rfl|rfl
 all_goals
  simp[V5,tu,oP,A8,qF,nA,oQ,qG,nC,oU,qH,nD,oV,oO]at t42 t;simp[f13,t31,t1,t2,t42,t,FV.az,FV.aP,FV.shift,FV.gD,ah.shift,ah.az]
theorem Y8 {ps:List Int}(h:aM 6 ps=true):ps.length<=3/\2<=ps.length/\∀ k ∈ ps,single k=true:=by
 unfold aM at h;rw[if_neg aC]at h;simp only[Qd0,decide_eq_true_eq,Qh2]at h;exact⟨h.1.2,h.1.1,h.2⟩
end
def dO (k:Int):Sv:=if k=2 then .c true 0 else if k=4 then .s 0 else if k=5 then .p [] else .q 0
theorem V8 {k:Int}(hk:single k=true)(S M:Nat)(hS:1<=S):(dO k).of k S M:=by
 rcases aN hk with rfl|rfl|rfl|rfl|rfl
 ·exact⟨.inl rfl,Qc1 jD hS⟩
 ·exact⟨rfl,bS,bS,fun _=>rfl⟩
 ·exact⟨.inr ⟨rfl,bS,bS⟩,Qc1 jD hS⟩
 ·exact⟨rfl,bS,bS⟩
 ·exact⟨rfl,PV.nil S,Qr1 _⟩
inductive W.Sm (S:Nat):W->Prop
 | mk {s:Bool} {a b:List Nat} {c:Int} {i:Bool} {u:Int} {p:List Mo} {ps:List W} (ha:bY a) (hb:bY b) (la:a.length<=S) (lb:b.length<=S) (hp:∀ m ∈ p,bY m.a/\bY m.b/\m.a.length<=S/\m.b.length<=S) (hu:A9 u)
   (h:∀ w ∈ ps,W.Sm S w):W.Sm S (.mk s a b c i u p ps)
theorem HY:q0 false [] []=true:=rfl
theorem V9 {k:Int}{S M:Nat}{x:Sv}(h:x.of k S M):gH k x.w=true:=by
 cases x with
 | q x =>
  obtain⟨h1,h2⟩:=h;have hv:=uw x;rcases h1 with rfl|⟨rfl,h0,h1⟩
  ·simp[gH,Sv.w,hv]
  ·have e:cB (qs x) (qn x) (qd x)=x:=sM x;have h3:(0:Int)<=x.num.sign:=Int.sign_nonneg_iff.2 (Rat.num_nonneg.2 h0);have h4:¬ (1:Rat)<x:=by grind
   simp[gH,Sv.w,hv,e,h3,h4]
 | c i n =>
  obtain⟨rfl,h1,h2,h3⟩:=h;cases i with
  | false=>simp[gH,Sv.w,h1,h2,HY]
  | true =>
   have:=h3 rfl;subst this;simp[gH,Sv.w,HY]
 | s u =>
  obtain⟨rfl,_⟩:=h;simp[gH,Sv.w,HY]
 | p l =>
  obtain⟨rfl,h1,_⟩:=h;have:=Bw h1 (q:=none) (fun m hm=>by cases hm);simp[gH,Sv.w,HY,this]
theorem V_ {k:Int}{S M:Nat}{x:Sv}(h:x.of k S M)(hS:S<=1000):x.w.OK:=by
 have hl:bY []:=fun _ h=>(by cases h)
 have hp0:Po []:=⟨fun _ h=>(by cases h),aC⟩
 have hw0:∀ w ∈ ([]:List W),w.OK:=fun _ h=>(by cases h)
 cases x with
 | q x =>
  have h1:(qn x).length<=qz x:=Q01 _ _;have h2:(qd x).length<=qz x:=by
   unfold qd;split
   ·simp
   ·exact Qy2 _ _
  have:=h.2;exact .mk (He x) (Hf x) ae ae hp0 aC hw0
 | c i n=>exact .mk hl hl aC aC hp0 aC hw0
 | s u=>exact .mk hl hl aC aC hp0 aC hw0
 | p l=>exact .mk hl hl aC aC (Vz h.2.1 hS) aC hw0
theorem aaJ (u v:Int):A9 (BU .u64 u v):=by
 have h:=Go.wf_wrap .u64 ((BitVec.ofInt 64 u ||| BitVec.ofInt 64 v).toNat:Int);simp only[Lit.wf,Qd0,decide_eq_true_eq]at h;have e1:IntKind.min .u64=0:=by rfl
 have e2:IntKind.max .u64=18446744073709551615:=by rfl
 rw[e1,e2]at h;have e3:BU .u64 u v=IntKind.wrap .u64 ((BitVec.ofInt 64 u ||| BitVec.ofInt 64 v).toNat:Int):=yP ..;rw[e3];unfold A9;omega
theorem Rt (a:List aS):dK a []=[]:=by
 induction a with
 | nil=>rfl
 | cons p r ih =>
  have:dK (p::r) []=iQ p []++dK r []:=by simp[dK]
  rw[this,ih];rfl
theorem Nk {k:Int}(hk:single k=true){S M:Nat}{x:Sv}(hx:x.of k S M):cK x (dO k)=dO k:=by
 rcases aN hk with rfl|rfl|rfl|rfl|rfl
 ·cases x with
  | q x=>show Sv.q (x*0)=.q 0;rw[Rat.mul_zero]
  | c i n=>exact absurd hx.1 bS
  | s u=>exact absurd hx.1 bS
  | p a=>exact absurd hx.1 bS
 ·cases x with
  | c i n =>
   show(if i||(true||decide (1099511627776<n+0)) then Sv.c true 0 else .c false (n+0))=.c true 0;simp
  | q x=>rcases hx.1 with h | h;exact absurd h bS;exact absurd h.1 bS
  | s u=>exact absurd hx.1 bS
  | p a=>exact absurd hx.1 bS
 ·cases x with
  | q x=>show Sv.q (x*0)=.q 0;rw[Rat.mul_zero]
  | c i n=>exact absurd hx.1 bS
  | s u=>exact absurd hx.1 bS
  | p a=>exact absurd hx.1 bS
 ·cases x with
  | s u =>
   show Sv.s (nY .u64 u 0)=.s 0;have:nY .u64 u 0=0:=by
    rw[Bo];have h0:BitVec.ofInt (IntKind.bits .u64) 0=0#(IntKind.bits .u64):=rfl;rw[h0,BitVec.and_zero];rfl
   rw[this]
  | q x=>rcases hx.1 with h | h;exact absurd h bS;exact absurd h.1 bS
  | c i n=>exact absurd hx.1 bS
  | p a=>exact absurd hx.1 bS
 ·cases x with
  | p a =>
   show Sv.p (dM a [])=.p [];have:dM a []=[]:=by
    unfold dM;rw[Rt];simp[canon,dY]
   rw[this]
  | q x=>rcases hx.1 with h | h;exact absurd h bS;exact absurd h.1 bS
  | c i n=>exact absurd hx.1 bS
  | s u=>exact absurd hx.1 bS
theorem HZ {k:Int}{ps:List Int}(hl:ps.length<=1000000){w:W}(hw:w.OK)(h:fH k ps w=true):Ca E1 41 [.d (aU k ps),.d w.d] (.d w.d,none):=by
 have t0:=CY k ps w hl hw;rw[h]at t0;obtain⟨N,t⟩:=(Ca.gM t0).get;obtain⟨vs,Hz,HV,vc,vb,vu,vp,Rp,ev⟩:=w.aH;rw[ev]at t ⊢;refine Ca.bQ (n:=N+60) ?_;rw[aA rfl (aO 41 f41:E1.fn _=_) rfl];unfold wD aU at*;clear ev t0;simp[f41,t]
end Fi.S
