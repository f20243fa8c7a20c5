import Derived.Test.YtkekcmgkpdkieaaGreatDoorSEnv
set_option linter.unusedVariables false
set_option linter.unusedSimpArgs false
noncomputable section
namespace Fi.S
open Go Fi
set_option maxHeartbeats 8000000
attribute [simp] st0 vI vB dI dB rL aG DI mO iO qm nO zf CK oD Gt Nn Gu JE aai adD V8 aaj V9 V_ aak Wd Qw Np Qx Nq aal We aam Wh aan aao Qy adE aap aaq Wi Qz QA QB QC QD QE QF aar aas Wj Wl aat QG adF aau aav Wm QH QI QJ QK Nr aaw QL Wn Wo aax Wp cO Wq Dy Ns kS runK zU jJ FV.target cu eT fC dR D.cells FV.cells FV.one D.one sZ St.push St.heap St.bg tC splice qH gH adG adH adI adJ adK agS adM adN adO adP adQ adR adT adU adV adW unV iP lW kg finish jF EO fD leaves w9 leave1 kT QM zV dL iW oneOf aL FV.rows FV.mU D.norm D.cZ scalar D.isV FV.shift FV.gz ai.shift kC tF elems aF.l aF.r aF.bl aF.lp
abbrev nAt:Nat:=225
abbrev fAt:bI:=f225
abbrev aay:Nat:=231
abbrev JF:bI:=f231
abbrev Ws:Nat:=180
abbrev agn:bI:=f180
theorem jK (n:Nat)(l:List Nat)(hl:l.length<=1000000000)(i:Nat)(hi:i<=1000000000)(hb:∀ x ∈ l,x<4294967296) :
  CL E0 (n+30) nAt [.d (LD l),dI i] []=some (.d (.v (.int .u64 (bC l i))),none):=by
 rw[aB rfl (aN 225 f225:E0.fn _=_) rfl]
 by_cases h:i<l.length
 ·have h1:((i:Int)<(l.length:Int)):=ae;have hx:l[i]?=some l[i]:=Qa1 h;have hw:av .u64 (l[i]:Int)=(l[i]:Int):=wrap_u64 (by have:=hb l[i] (Qj1 h);omega);have ha:bC l i=l[i]:=by simp[bC,hx]
  simp[f225,LD,LL,h1,hx,hw,ha]
 ·have h1:¬ ((i:Int)<(l.length:Int)):=ae;have ha:bC l i=0:=by simp[bC,Qq2 (Nat.le_of_not_lt h)]
  simp[f225,LD,LL,h1,ha]
def VK (l:List Nat):St:=(st0 [.d (LD l),.u,.u] [])
def clR (l:List Nat):Out × St:=(.exit 0,(st0 [.d (LD (trim l)),.u,dB false] []))
def Zx:aF:=match JF.body with
 | .seq _ (.seq (.block _ (.loop b)) _)=>b
 | _=>.skip
theorem EP (n:Nat):EX E0 (n+40) Zx (VK [])=some (clR []):=by
 simp[Zx,VK,clR,f231,LD,LL,trim]
theorem Gv (n:Nat)(b:List Nat)(x:Nat)(hl:b.length<=1000000000) :
  EX E0 (n+40) Zx (VK (b++[x]))=if x=0 then some (.norm,VK b) else some (clR (b++[x])):=by
 have hlen:(LL (b++[x])).length=b.length+1:=by simp[LL]
 have hget:(LL (b++[x]))[b.length]?=some (.v (.int .u32 (x:Int))):=by simp[LL]
 have htake:(LL (b++[x])).take b.length=LL b:=by simp[LL]
 have hpos:(0:Int)<(b.length:Int)+1:=ae;have hw:av .i64 (b.length:Int)=(b.length:Int):=wrap_i64 ae
 by_cases h:x=0
 ·subst h;unfold VK LD;generalize LL (b++[0])=es at hlen hget htake;have zW:=idx hget;have hh:((b.length:Int)<=(b.length:Int)+1):=ae;simp[Zx,f231,hlen,hget,zW,htake,hpos,hw,hh,jL,ER]
 ·have hx:((x:Int)==0)=false:=by simpa using h
  rw[if_neg h];unfold clR;rw[rR b x h];unfold VK LD;generalize LL (b++[x])=es at hlen hget htake;have zW:=idx hget;simp[Zx,f231,hlen,hget,zW,hpos,hw,hx]
theorem JG (l:List Nat)(hl:l.length<=1000000000):Ex E0 (.loop Zx) (VK l) (clR l):=by
 have:=Ex.while (E:=E0) (b:=Zx) (fun a:{l:List Nat // l.length<=1000000000}=>VK a.1) (fun a=>a.1.length) (fun a=>clR a.1) ?_ ⟨l,hl⟩
 ·exact this
 ·rintro⟨l,hl⟩;rcases Q72 l with rfl|⟨b,x,rfl⟩
  ·exact .inr ⟨Ex.of (EP 0),by intro h;cases h⟩
  ·have hb:b.length<=1000000000:=by simp at hl;omega
   have hr:=Gv 0 b x hb;rw[<-Q10]at hr
   by_cases h:x=0
   ·subst h;rw[if_pos rfl]at hr;refine .inl ⟨⟨b,hb⟩,Ex.of hr,aC,?_⟩;simp only[clR,Q10,rT]
   ·rw[if_neg h]at hr;exact .inr ⟨Ex.of hr,by intro h;cases h⟩
def clA:aF:=match JF.body with
 | .seq a _=>a
 | _=>.skip
def clC:aF:=match JF.body with
 | .seq _ (.seq _ c)=>c
 | _=>.skip
theorem gQ (l:List Nat)(hl:l.length<=1000000000):Ca E0 aay [.d (LD l)] (.d (LD (trim l)),none):=by
 refine Ca.body (o:=.ret) (st1:=(st0 [.u,.d (LD (trim l)),.u] [])) rfl (k231:E0.fn _=_) rfl ?_ (by intro id h;cases h) ?_
 ·show Ex E0 (.seq clA (.seq (.block 0 (.loop Zx)) clC)) _ _;refine Ex.seq (st1:=VK l) (Ex.of (n:=40) ?_) (Ex.seq ((JG l hl).block) (Ex.of (n:=40) ?_))
  ·simp[clA,VK,f231]
  ·simp[clC,f231]
 ·simp[f231,LD]
abbrev aaA:Nat:=181
abbrev Wu:bI:=f181
def ES (a b:List Nat):Nat->Int
 | 0=>0
 | k+1=>if bC a k=bC b k then ES a b k else if bC a k<bC b k then -1 else 1
def Zy (a b:List Nat)(i:Int):St:=(st0 (.d (LD a)::.d (LD b)::.u::dI i::mO) [])
def QN (a b:List Nat):Nat->Out × St
 | 0=>(.exit 0,(st0 [.d (LD a),.d (LD b),.u,.d (.v (.int .i64 (-1))),.u,.u,.d (.v (.bool false)),.u] []))
 | k+1=>if bC a k=bC b k then QN a b k else(.ret,(st0 [.u,.u,.d (.v (.int .i64 (if bC a k<bC b k then -1 else 1))),.u,.u,.u,.u,.u] []))
def Wv:aF:=match Wu.body with
 | .seq _ (.seq (.seq _ (.block _ (.loop b))) _)=>b
 | _=>.skip
def cmA:aF:=match Wu.body with
 | .seq a _=>a
 | _=>.skip
def Ww:aF:=match Wu.body with
 | .seq _ (.seq (.seq a (.block _ (.loop _))) _)=>a
 | _=>.skip
def cmC:aF:=match Wu.body with
 | .seq _ (.seq (.seq _ (.block _ (.loop _))) c)=>c
 | _=>.skip
theorem cz {l:List Nat}(h:bP l)(i:Nat):bC l i<4294967296:=by
 unfold bC;cases hx:l[i]? with
 | none=>simp
 | some x=>exact h x (Qb2 hx)
theorem JH (n:Nat)(a b:List Nat):EX E0 (n+60) Wv (Zy a b (-1))=some (QN a b 0):=by
 simp[Wv,Zy,QN,f181]
theorem Nt (n:Nat)(a b:List Nat)(k:Nat)(hk:k<=1000000000)(la:a.length<=1000000000)(lb:b.length<=1000000000)(ha:bP a)(hb:bP b) :
  EX E0 (n+60) Wv (Zy a b k)=if bC a k=bC b k then some (.norm,Zy a b ((k:Int)-1)) else some (QN a b (k+1)):=by
 have h1:=fun m=>jK m a la k hk ha
 have h2:=fun m=>jK m b lb k hk hb
 have xa:=cz ha k;have xb:=cz hb k;have hdec:av .i64 ((k:Int)-1)=(k:Int)-1:=wrap_i64 ae;have hk0:(0:Int)<=(k:Int):=ae;unfold QN Zy;simp only[LD]at h1 h2 ⊢;generalize bC a k=x,bC b k=y at*
 by_cases hxy:x=y
 ·subst hxy;simp[Wv,f181,h1,h2,hdec,hk0]
 ·have hne:((x:Int) != (y:Int))=true:=by simp;omega
  rw[if_neg hxy,if_neg hxy]
  by_cases hlt:x<y
  ·have hs:av .u64 ((x:Int)-(y:Int))=18446744073709551616+(x:Int)-(y:Int):=by rw[fE];omega
   have hd:Int.fdiv (18446744073709551616+(x:Int)-(y:Int)) 9223372036854775808=1:=by rw[Qm2 _ ae];omega
   have w1:av .i64 1=1:=wrap_i64 ae;have w2:av .i64 2=2:=wrap_i64 ae;have w3:av .i64 (-1)=-1:=wrap_i64 ae;simp[IntKind.bits,Wv,f181,h1,h2,hk0,hne,hs,hd,hlt,w1,w2,w3]
  ·have hs:av .u64 ((x:Int)-(y:Int))=(x:Int)-(y:Int):=wrap_u64 ae;have hd:Int.fdiv ((x:Int)-(y:Int)) 9223372036854775808=0:=by rw[Qm2 _ ae];omega
   have w1:av .i64 1=1:=wrap_i64 ae;have w0:av .i64 0=0:=wrap_i64 ae;simp[IntKind.bits,Wv,f181,h1,h2,hk0,hne,hs,hd,hlt,w1,w0]
theorem w_ (a b:List Nat):∀ k,(QN a b k=(.exit 0,(st0 [.d (LD a),.d (LD b),.u,dI (-1),.u,.u,dB false,.u] []))/\ES a b k=0) \/
  QN a b k=(.ret,(st0 (.u::.u::dI (ES a b k)::iO) []))
 | 0=>.inl ⟨rfl,rfl⟩
 | k+1=>by
  unfold QN ES
  by_cases h:bC a k=bC b k
  ·rw[if_pos h,if_pos h];exact w_ a b k
  ·rw[if_neg h,if_neg h];exact .inr rfl
theorem aaB (a b:List Nat)(k:Nat):(QN a b k).1≠.norm:=by
 rcases w_ a b k with ⟨h,_⟩|h<;>rw[h]<;>intro h<;>cases h
theorem Gw (a b:List Nat)(la:a.length<=1000000000)(lb:b.length<=1000000000)(ha:bP a)(hb:bP b):∀ (k:Nat),k<=1000000001->Ex E0 (.loop Wv) (Zy a b ((k:Int)-1)) (QN a b k)
 | 0,_=>Ex.out (Ex.of (n:=60) (JH 0 a b)) (by intro h;cases h)
 | k+1,hk=>by
  have hr:=Nt 0 a b k ae la lb ha hb;rw[show(((k+1:Nat):Int)-1)=(k:Int) by omega]
  by_cases h:bC a k=bC b k
  ·rw[if_pos h]at hr;have:=Gw a b la lb ha hb k ae;unfold QN;rw[if_pos h];exact Ex.next (Ex.of hr) this
  ·rw[if_neg h]at hr;exact Ex.leave (Ex.of hr) (aaB a b (k+1))
theorem Wx (a b:List Nat)(la:a.length<=1000000000)(lb:b.length<=1000000000)(ha:bP a)(hb:bP b) :
  Ca E0 aaA [.d (LD a),.d (LD b)] (dI (ES a b (max a.length b.length)),none):=by
 have hl:=Gw a b la lb ha hb (max a.length b.length) ae;have hA:Ex E0 cmA (st0 (.d (LD a)::.d (LD b)::qm) []) (.norm,(st0 (.d (LD a)::.d (LD b)::qm) [])) :=
  Ex.of (n:=40) (by simp[cmA,f181])
 have hmax:(if a.length<b.length then(b.length:Int) else(a.length:Int))=((max a.length b.length:Nat):Int):=by split<;>omega
 have hw:av .i64 (((max a.length b.length:Nat):Int)-1)=((max a.length b.length:Nat):Int)-1:=wrap_i64 ae;have t_:(LL a).length=a.length:=by simp[LL]
 have CU:(LL b).length=b.length:=by simp[LL]
 have hA2:Ex E0 Ww (st0 (.d (LD a)::.d (LD b)::qm) []) (.norm,Zy a b (((max a.length b.length:Nat):Int)-1)):=by
  refine Ex.of (n:=40) ?_;unfold Zy LD;generalize max a.length b.length=mm at*;simp[Ww,f181,t_,CU,hmax,hw]
 rcases w_ a b (max a.length b.length) with ⟨h,h0⟩|h
 ·rw[h]at hl;rw[h0];refine Ca.body (o:=.ret) (st1:=(st0 (.u::.u::dI 0::iO) [])) rfl (k181:E0.fn _=_) rfl ?_ (by intro id h;cases h) ?_
  ·show Ex E0 (.seq cmA (.seq (.seq Ww (.block 0 (.loop Wv))) cmC)) _ _;refine hA.seq ((hA2.seq hl.block).seq (Ex.of (n:=40) ?_));simp[cmC,f181]
  ·simp[f181]
 ·rw[h]at hl;refine Ca.body (o:=.ret) (st1:=(st0 (.u::.u::dI (ES a b (max a.length b.length))::iO) [])) rfl (k181:E0.fn _=_) rfl ?_ (by intro id h;cases h) ?_
  ·show Ex E0 (.seq cmA (.seq (.seq Ww (.block 0 (.loop Wv))) cmC)) _ _;refine hA.seq (Ex.bN (hA2.seq hl.bG))
  ·simp[f181]
def dH (x y:Nat):Int:=if x<y then -1 else if x=y then 0 else 1
theorem Gx {a b:List Nat}(ha:bP a)(hb:bP b):∀ k,ES a b k=dH (bW a k) (bW b k)
 | 0=>by simp[ES,dH,bW,val]
 | k+1=>by
  rw[ES,Gx ha hb k,dS,dS];have h1:=nP ha k;have h2:=nP hb k;unfold dH
  by_cases h:bC a k=bC b k
  ·rw[if_pos h,h];generalize 4294967296 ^ k*bC b k=p
   by_cases h3:bW a k<bW b k
   ·rw[if_pos h3,if_pos ae]
   ·by_cases h4:bW a k=bW b k
    ·rw[if_neg h3,if_pos h4,if_neg ae,if_pos ae]
    ·rw[if_neg h3,if_neg h4,if_neg ae,if_neg ae]
  ·rw[if_neg h]
   by_cases h3:bC a k<bC b k
   ·have:=jk (vb:=bW b k) h1 h3;rw[if_pos h3];generalize 4294967296 ^ k*bC a k=p,4294967296 ^ k*bC b k=q at*;rw[if_pos this]
   ·have:=jk (vb:=bW a k) h2 (show bC b k<bC a k by omega);rw[if_neg h3];generalize 4294967296 ^ k*bC a k=p,4294967296 ^ k*bC b k=q at*;rw[if_neg ae,if_neg ae]
theorem xe (a b:List Nat)(la:a.length<=1000000000)(lb:b.length<=1000000000)(ha:bP a)(hb:bP b) :
  Ca E0 aaA [.d (LD a),.d (LD b)] (dI (dH (val a) (val b)),none):=by
 have h:=Wx a b la lb ha hb;rw[Gx ha hb,eU ae,eU ae]at h;exact h
abbrev Zz:Nat:=228
abbrev Dz:bI:=f228
def Wy:aF:=match Dz.body with
 | .seq _ (.seq _ (.seq _ (.seq (.seq _ (.block _ (.loop b))) _)))=>b
 | _=>.skip
def adX:aF:=match Dz.body with
 | .seq a _=>a
 | _=>.skip
def adY:aF:=match Dz.body with
 | .seq _ (.seq a _)=>a
 | _=>.skip
def adZ:aF:=match Dz.body with
 | .seq _ (.seq _ (.seq a _))=>a
 | _=>.skip
def ad1:aF:=match Dz.body with
 | .seq _ (.seq _ (.seq _ (.seq (.seq a (.block _ (.loop _))) _)))=>a
 | _=>.skip
def plC:aF:=match Dz.body with
 | .seq _ (.seq _ (.seq _ (.seq (.seq _ (.block _ (.loop _))) c)))=>c
 | _=>.skip
def dM (k:Nat):FV:=if k=0 then .d (.n 1) else .ls (.loc 0) (k-1) 1 0 k
def dN (k:Nat)(o:List D):List ai:=if k=0 then [] else [.row (k-1) 1 o]
def VL (a b o:List Nat)(k s:Nat)(t:FV):St:=(st0 [.d (LD a),.d (LD b),.u,dM k,.d (.v (.int .u64 s)),dI k,t] (dN k (LL o)))
theorem JI (n:Nat)(a b o:List Nat)(k s:Nat)(hk:k<=1000000000)(la:a.length<=1000000000)(lb:b.length<=1000000000)(ha:bP a)(hb:bP b)(ho:o.length=k)(hs:s<4294967296) :
  EX E0 (n+60) Wy (VL a b o k s .u)=if k<max a.length b.length\/0<s then some (.norm,VL a b (o++[(s+(bC a k+bC b k)) % 4294967296]) (k+1) ((s+(bC a k+bC b k)) / 4294967296) .u)
   else some (.exit 0,VL a b o k s (dB false)):=by
 have h1:=fun m=>jK m a la k hk ha
 have h2:=fun m=>jK m b lb k hk hb
 have xa:=cz ha k;have xb:=cz hb k;have t_:(LL a).length=a.length:=by simp[LL]
 have CU:(LL b).length=b.length:=by simp[LL]
 have hmax:(if a.length<b.length then(b.length:Int) else(a.length:Int))=((max a.length b.length:Nat):Int):=by split<;>omega
 simp only[LD]at h1 h2;have aP:av .i64 ((k:Int)+1)=(k:Int)+1:=wrap_i64 ae;generalize bC a k=x,bC b k=y at*;have w1:av .u64 ((x:Int)+(y:Int))=(x:Int)+(y:Int):=wrap_u64 ae;have w2:av .u64 ((s:Int)+((x:Int)+(y:Int)))=(s:Int)+((x:Int)+(y:Int)):=wrap_u64 ae;have w3:av .u32 ((s:Int)+((x:Int)+(y:Int)))=((s:Int)+((x:Int)+(y:Int))) % 4294967296:=dA _;have w4:Int.fdiv ((s:Int)+((x:Int)+(y:Int))) 4294967296=((s:Int)+((x:Int)+(y:Int))) / 4294967296:=Qm2 _ ae;have Qi:LL (o++[(s+(x+y)) % 4294967296])=LL o++[.v (.int .u32 (((s:Int)+((x:Int)+(y:Int))) % 4294967296))]:=by simp[LL]
 have hol:(LL o).length=k:=by simp[LL,ho]
 have hv1:dM (k+1)=.ls (.loc 0) k 1 0 (k+1):=by simp[dM]
 have C8:∀ l,dN (k+1) l=[.row k 1 l]:=by intro l;simp[dN]
 have hm1:(k+1)*4<=most:=by simp[most];omega
 have hm2:k+1<=most:=by simp[most];omega
 have htk:(LL o).take k=LL o:=Qe0 ae;have hk1:((k+1:Nat):Int)=(k:Int)+1:=ae;have hs1:(((s+(x+y)) / 4294967296:Nat):Int)=((s:Int)+((x:Int)+(y:Int))) / 4294967296:=ae;unfold VL;rw[Qi,hv1,C8,hk1,hs1]
 by_cases hk0:k=0
 ·have hv:dM k=.d (.n 1):=by simp[dM,hk0]
  have hh:∀ l,dN k l=[]:=by intro l;simp[dN,hk0]
  have ho0:o=[]:=Qo1 ae;have hLo:LL o=[]:=by rw[ho0];rfl
  have hm3:1*4<=most:=by simp[most]
  have hm4:1<=most:=by simp[most]
  have hvk:FV.ls (.loc 0) 0 1 0 1=FV.ls (.loc 0) k 1 0 (k+1):=by rw[hk0]
  have hhk:∀ l,ai.row 0 1 l=ai.row k 1 l:=by intro l;rw[hk0]
  rw[hv,hh,hLo,<-hvk,<-hhk];generalize max a.length b.length=mm at*
  by_cases hc:k<mm
  ·rw[if_pos (.inl hc)];simp[IntKind.bits,Wy,f228,LD,t_,CU,hmax,hc,h1,h2,aP,w1,w2,w3,w4,hm4,most]
  ·by_cases hs0:0<s
   ·rw[if_pos (.inr hs0)];simp[IntKind.bits,Wy,f228,LD,t_,CU,hmax,hc,hs0,h1,h2,aP,w1,w2,w3,w4,hm4,most]
   ·rw[if_neg ae];simp[IntKind.bits,Wy,f228,LD,t_,CU,hmax,hc,hs0]
 ·have hv:dM k=.ls (.loc 0) (k-1) 1 0 k:=by simp[dM,hk0]
  have hh:∀ l,dN k l=[.row (k-1) 1 l]:=by intro l;simp[dN,hk0]
  have hk2:k-1+1=k:=ae;rw[hv,hh];generalize max a.length b.length=mm at*
  by_cases hc:k<mm
  ·rw[if_pos (.inl hc)];simp[IntKind.bits,Wy,f228,LD,t_,CU,hmax,hc,h1,h2,aP,w1,w2,w3,w4,hm1,hm2,hol,htk,hk2]
  ·by_cases hs0:0<s
   ·rw[if_pos (.inr hs0)];simp[IntKind.bits,Wy,f228,LD,t_,CU,hmax,hc,hs0,h1,h2,aP,w1,w2,w3,w4,hm1,hm2,hol,htk,hk2]
   ·rw[if_neg ae];simp[IntKind.bits,Wy,f228,LD,t_,CU,hmax,hc,hs0]
def plI (a b:List Nat)(t:List Nat × Nat × Nat):Prop :=
 t.1.length=t.2.1/\t.2.1<=max a.length b.length+1/\(t.2.1=max a.length b.length+1->t.2.2=0)/\t.2.2<4294967296/\bP t.1 /\
 val t.1+4294967296 ^ t.2.1*(t.2.2+val (a.drop t.2.1)+val (b.drop t.2.1))=val a+val b
theorem DD {P s x y va vb vo d c:Nat}(h:s+(x+y)=d+4294967296*c) :
  vo+P*d+P*4294967296*(c+va+vb)=vo+P*(s+(x+4294967296*va)+(y+4294967296*vb)):=by grind
theorem Nu (a b:List Nat)(la:a.length<=100000000)(lb:b.length<=100000000)(ha:bP a)(hb:bP b) :
  ∃ r,Ex E0 (.loop Wy) (VL a b [] 0 0 .u) r/\∃ o,bP o/\val o=val a+val b/\o.length<=max a.length b.length+1/\r=(.exit 0,VL a b o o.length 0 (dB false)):=by
 refine Ex.inv (S:=fun t:List Nat × Nat × Nat=>VL a b t.1 t.2.1 t.2.2 .u) (fun t=>max a.length b.length+2-t.2.1) (plI a b) _ ?_ ([],0,0) ?_
 ·rintro⟨o,k,s⟩ ⟨h1,h2,h3,h4,h5,h6⟩;simp only at h1 h2 h3 h4 h5 h6;have hr:=JI 0 a b o k s ae ae ae ha hb h1 h4;have xa:=cz ha k;have xb:=cz hb k
  by_cases hc:k<max a.length b.length\/0<s
  ·rw[if_pos hc]at hr;have hk:k<max a.length b.length+1:=by
    rcases hc with hc|hc
    ·omega
    ·rcases Qg2 k (max a.length b.length+1) with h|h
     ·exact h
     ·have:=h3 ae;omega
   refine .inl ⟨(o++[(s+(bC a k+bC b k)) % 4294967296],k+1,(s+(bC a k+bC b k)) / 4294967296),Ex.of hr,by simp only;omega,?_,?_,?_,?_,?_,?_⟩
   ·simp[h1]
   ·simp only;omega
   ·intro he;simp only at he ⊢;have e1:bC a k=0:=by unfold bC;rw[Qq2 ae];rfl
    have e2:bC b k=0:=by unfold bC;rw[Qq2 ae];rfl
    rw[e1,e2];omega
   ·simp only;omega
   ·exact gT h5 (fun x hx=>by simp at hx;subst hx;exact Qu0 _ ae)
   ·simp only;rw[val_append,h1,Qn1,<-h6,iJ a k,iJ b k];have hv:val [(s+(bC a k+bC b k)) % 4294967296]=(s+(bC a k+bC b k)) % 4294967296:=by simp[val]
    rw[hv];exact DD ae
  ·rw[if_neg hc]at hr;refine .inr ⟨_,Ex.of hr,aC,o,h5,?_,ae,?_⟩
   ·rw[gU ae,gU ae]at h6;have:s=0:=ae;subst this;simpa using h6
   ·have:s=0:=ae;subst this;rw[h1]
 ·refine⟨rfl,aC,?_,aC,?_,?_⟩
  ·simp
  ·intro x hx;cases hx
  ·simp[val]
theorem Wz (a b:List Nat)(la:a.length<=100000000)(lb:b.length<=100000000)(ha:bP a)(hb:bP b) :
  Ca E0 Zz [.d (LD a),.d (LD b)] (.d (LD (enc (val a+val b))),none):=by
 obtain⟨r,hl,o,ho,hv,hol,rfl⟩:=Nu a b la lb ha hb;obtain⟨n0,hc⟩:=(gQ o ae).get;rw[b_ ho,hv]at hc;have hlo:(LL o).length=o.length:=by simp[LL]
 generalize enc (val a+val b)=res at*;refine Ca.body (o:=.ret) (st1:=(st0 (.u::.u::.d (LD res)::mO) (if o.length=0 then [] else [.fU (o.length-1) 1 (LL o)]))) rfl (aN 228 f228:E0.fn _=_) rfl ?_ (by intro id h;cases h) ?_
 ·show Ex E0 (.seq adX (.seq adY (.seq adZ (.seq (.seq ad1 (.block 0 (.loop Wy))) plC)))) _ _;refine Ex.seq (st1:=(st0 (.d (LD a)::.d (LD b)::iO) [])) (Ex.of (n:=40) ?_)
   (Ex.seq (st1:=(st0 [.d (LD a),.d (LD b),.u,.d (.n 1),.u,.u,.u] [])) (Ex.of (n:=40) ?_)
   (Ex.seq (st1:=(st0 [.d (LD a),.d (LD b),.u,.d (.n 1),.d (.v (.int .u64 0)),.u,.u] [])) (Ex.of (n:=40) ?_)
   (Ex.seq (Ex.seq (st1:=VL a b [] 0 0 .u) (Ex.of (n:=40) ?_) hl.block) (Ex.of (n:=n0+40) ?_))))
  ·simp[adX,f228]
  ·simp[adY,f228]
  ·simp[adZ,f228]
  ·simp[ad1,VL,dM,dN,f228]
  ·unfold VL;simp only[LD]at hc ⊢
   by_cases hk0:o.length=0
   ·have hLo:LL o=[]:=Qo1 ae;have hv1:dM o.length=.d (.n 1):=by simp[dM,hk0]
    have C8:∀ l,dN o.length l=[]:=by intro l;simp[dN,hk0]
    rw[if_pos hk0,hv1,C8];rw[hLo]at hc;clear hl;simp[plC,f228,hc]
   ·have htk:(LL o).take o.length=LL o:=Qe0 ae;have hv1:dM o.length=.ls (.loc 0) (o.length-1) 1 0 o.length:=by simp[dM,hk0]
    have C8:∀ l,dN o.length l=[.row (o.length-1) 1 l]:=by intro l;simp[dN,hk0]
    rw[if_neg hk0,hv1,C8];clear hl;generalize LL o=es,o.length=k at*;simp[ai.view,plC,f228,hlo,htk,hc]
 ·simp[f228,LD]
abbrev QO:Nat:=229
abbrev xg:bI:=f229
def miB:aF:=xg.body.r.r.r.l.r.bl.lp
def QP (a b:List Nat)(es:List D)(n k s:Nat)(t:FV):St:=(st0 [.d (LD a),.d (LD b),.u,.ls (.loc 0) 0 1 0 n,.d (.v (.int .u64 s)),.u,.u,dI n,dI k,t] [.row 0 1 es])
theorem Nv (n:Nat)(a b:List Nat)(es:List D)(k s:Nat):EX E0 (n+60) miB (QP a b es k k s .u)=some (.exit 0,QP a b es k k s (dB false)):=by
 unfold QP;simp[miB,f229]
theorem Gy (n:Nat)(a b:List Nat)(es:List D)(l k s s' d:Nat)(hk:k<l)(hl:l<=1000000000)(la:a.length<=1000000000)(lb:b.length<=1000000000)(ha:bP a)(hb:bP b)(hs:s<=1)(he:es.length=l)
  (hz:es[k]?=some (.v (.int .u32 0))) (hd:d<4294967296) (hs':s'<=1) (hdig:bC a k+4294967296*s'=d+bC b k+s) :
  EX E0 (n+60) miB (QP a b es l k s .u)=some (.norm,QP a b (es.set k (.v (.int .u32 (d:Int)))) l (k+1) s' .u):=by
 have h1:=fun m=>jK m a la k ae ha
 have h2:=fun m=>jK m b lb k ae hb
 have xa:=cz ha k;have xb:=cz hb k;simp only[LD]at h1 h2;have aP:av .i64 ((k:Int)+1)=(k:Int)+1:=wrap_i64 ae;generalize bC a k=x,bC b k=y at*;have hk':(k:Int)<(l:Int):=ae;have hk1:((k+1:Nat):Int)=(k:Int)+1:=ae;have w1:av .u64 (av .u64 ((x:Int)-(y:Int))-(s:Int))=((x:Int)-(y:Int)-(s:Int)) % 18446744073709551616:=by rw[fE,fE];omega
 have w3:av .u32 (((x:Int)-(y:Int)-(s:Int)) % 18446744073709551616)=(d:Int):=by rw[dA];omega
 have w4:Int.fdiv (((x:Int)-(y:Int)-(s:Int)) % 18446744073709551616) 9223372036854775808=(s':Int):=by rw[Qm2 _ ae];omega
 have hz2:=idx hz;unfold QP;rw[hk1];simp[IntKind.bits,miB,f229,LD,hk',h1,h2,aP,w1,w3,w4,hz,hz2]
def miI (a b:List Nat)(t:List Nat × Nat):Prop :=
 t.1.length<=a.length/\t.2<=1/\bP t.1/\bW a t.1.length+4294967296 ^ t.1.length*t.2=val t.1+bW b t.1.length
theorem zX {P x y va vb vo s d s':Nat}(h:va+P*s=vo+vb)(hd:x+4294967296*s'=d+y+s):va+P*x+P*4294967296*s'=vo+P*d+(vb+P*y):=by
 have:P*x+P*4294967296*s'=P*d+P*y+P*s:=by
  rw[Q32,<-Q92,<-Q92,<-Q92,hd]
 omega
theorem JJ (a b:List Nat)(la:a.length<=1000000000)(lb:b.length<=a.length)(ha:bP a)(hb:bP b)(hab:val b<=val a) :
  ∃ r,Ex E0 (.loop miB) (QP a b (LL (row0 [] a.length)) a.length 0 0 .u) r/\∃ o,bP o/\val o=val a-val b/\o.length=a.length/\r=(.exit 0,QP a b (LL o) a.length a.length 0 (dB false)):=by
 refine Ex.inv (S:=fun t:List Nat × Nat=>QP a b (LL (row0 t.1 (a.length-t.1.length))) a.length t.1.length t.2 .u) (fun t=>a.length-t.1.length) (miI a b) _ ?_ ([],0) ?_
 ·rintro⟨o,s⟩ ⟨h1,h2,h3,h4⟩;simp only at h1 h2 h3 h4;have xa:=cz ha o.length;have xb:=cz hb o.length
  by_cases hk:o.length<a.length
  ·obtain⟨m,hm⟩:∃ m,a.length-o.length=m+1:=⟨a.length-o.length-1,ae⟩
   obtain⟨d,s',hd,hs',hdig⟩:∃ d s',d<4294967296/\s'<=1/\bC a o.length+4294967296*s'=d+bC b o.length+s:=by
    by_cases hc:bC b o.length+s<=bC a o.length
    ·exact⟨bC a o.length-(bC b o.length+s),0,ae,ae,ae⟩
    ·exact⟨bC a o.length+4294967296-(bC b o.length+s),1,ae,ae,ae⟩
   have hr:=Gy 0 a b (LL (row0 o (m+1))) a.length o.length s s' d hk la la ae ha hb h2 (by rw[qI];omega) (LZ o m) hd hs' hdig;rw[Gz]at hr;refine .inl ⟨(o++[d],s'),?_,?_,?_,?_,?_,?_⟩
   ·simp only[hm,Qb0,Qf2,Qw0];rw[show a.length-(o.length+(0+1))=m by omega];exact Ex.of hr
   ·simp only[Qb0,Qf2,Qw0];omega
   ·simp only[Qb0,Qf2,Qw0];omega
   ·exact hs'
   ·exact gT h3 (fun x hx=>by simp at hx;subst hx;exact hd)
   ·simp only[Qb0,Qf2,Qw0,Qy0];rw[dS,dS,val_append,Qn1];have hv:val [d]=d:=by simp[val]
    rw[hv];exact zX h4 hdig
  ·have he:o.length=a.length:=ae;rw[he,eU (Qd1 _),eU lb]at h4;have hlt:=nH h3;rw[he]at hlt;have hs0:s=0:=by
    rcases Qg2 s 1 with h|h
    ·omega
    ·have:s=1:=ae;subst this;generalize 4294967296 ^ a.length=p at*;omega
   subst hs0;refine .inr ⟨_,?_,?_,o,h3,ae,he,rfl⟩
   ·simp only[he,Q11,DF];exact Ex.of (Nv 0 a b (LL o) a.length 0)
   ·simp
 ·refine⟨aC,aC,?_,?_⟩
  ·intro x hx;cases hx
  ·simp[val,bW]
theorem zY (a b:List Nat)(la:a.length<=1000000000)(lb:b.length<=a.length)(ha:bP a)(hb:bP b)(hab:val b<=val a) :
  Ca E0 QO [.d (LD a),.d (LD b)] (.d (LD (enc (val a-val b))),none):=by
 obtain⟨r,hl,o,ho,hv,hol,rfl⟩:=JJ a b la lb ha hb hab;obtain⟨n0,hc⟩:=(gQ o ae).get;rw[b_ ho,hv]at hc;have hlo:(LL o).length=a.length:=by simp[LL,hol]
 have hla:(LL a).length=a.length:=by simp[LL]
 have htk:(LL o).take a.length=LL o:=Qe0 ae;have hz:=u7 a.length;generalize enc (val a-val b)=res at*;refine Ca.body (o:=.ret) (st1:=(st0 (.u::.u::.d (LD res)::nO) [.fU 0 1 (LL o)])) rfl (aN 229 f229:E0.fn _=_) rfl ?_ (by intro id h;cases h) ?_
 ·show Ex E0 (.seq xg.body.l (.seq xg.body.r.l (.seq xg.body.r.r.l (.seq (.seq xg.body.r.r.r.l.l (.block 0 (.loop miB))) xg.body.r.r.r.r)))) _ _;refine Ex.seq (st1:=(st0 (.d (LD a)::.d (LD b)::zf) [])) (Ex.of (n:=40) ?_)
   (Ex.seq (st1:=(st0 (.d (LD a)::.d (LD b)::.u::.ls (.loc 0) 0 1 0 a.length::qm) [.row 0 1 (LL (row0 [] a.length))])) (Ex.of (n:=40) ?_)
   (Ex.seq (st1:=(st0 (.d (LD a)::.d (LD b)::.u::.ls (.loc 0) 0 1 0 a.length::.d (.v (.int .u64 0))::iO) [.row 0 1 (LL (row0 [] a.length))])) (Ex.of (n:=40) ?_)
   (Ex.seq (Ex.seq (Ex.of (n:=40) ?_) hl.block) (Ex.of (n:=n0+40) ?_))))
  ·simp[f229]
  ·have hm1:(a.length:Int)*4<=1099511627776:=ae;have hm2:(a.length:Int)<=1099511627776:=ae;rw[hz];simp[f229,LD,hla,hm1,hm2,most]
  ·simp[f229]
  ·unfold QP;simp[f229,LD,hla]
  ·unfold QP;simp only[LD]at hc ⊢;clear hl;generalize LL o=es at*;simp[ai.view,f229,hlo,htk,hc]
 ·simp[f229,LD]
abbrev aaC:Nat:=233
abbrev zZ:bI:=f233
theorem QQ {r:Nat}(hr:r<4294967296):JK .u64 (r:Int) 32=(r:Int)*4294967296:=by
 rw[zt,<-cB];have h:(2:Int) ^ (min (Int.toNat 32) (IntKind.bits .u64))=4294967296:=by rfl
 rw[h,wrap_u64 ae]
theorem z8 {r x:Nat}(hr:r<4294967296)(hx:x<4294967296) :
  GA .u64 ((r:Int)*4294967296) (x:Int)=(r:Int)*4294967296+(x:Int):=by
 rw[xh,<-cB]
 change av .u64 ((BitVec.ofInt 64 ((r:Int)*4294967296) ||| BitVec.ofInt 64 (x:Int)).toNat:Int)=_
 rw[BitVec.ofInt_natCast];have hs:r <<< 32=r*4294967296:=by rw[Nat.shiftLeft_eq]
 have h0:((r:Int)*(4294967296:Int))=((r <<< 32:Nat):Int):=by rw[hs];omega
 have e1:BitVec.ofInt 64 ((r:Int)*(4294967296:Int))=BitVec.ofNat 64 (r <<< 32):=by
  rw[h0,BitVec.ofInt_natCast]
 have l1:r <<< 32<2 ^ 64:=by rw[hs];omega
 have l2:x<2 ^ 64:=ae;have l3:x<2 ^ 32:=ae;rw[e1,BitVec.toNat_or,BitVec.toNat_ofNat,BitVec.toNat_ofNat,Qw1 l1,Qw1 l2,<-Xn1 l3,hs];rw[wrap_u64 ae];omega
theorem yn {r d x B:Nat}(hr:r<d)(hx:x<B):(r*B+x) / d<B:=by
 rw[Qt1 ae];have h1:=Qh2 B hr;rw[Nat.succ_mul]at h1;rw[Qm1 B d];omega
def smB:aF:=zZ.body.r.r.l.r.bl.lp
def QR (a:List Nat)(es:List D)(d n:Nat)(k:Int)(r:Nat)(t:FV):St:=(st0 [.d (LD a),.d (.v (.int .u32 d)),.u,.u,.ls (.loc 0) 0 1 0 n,.d (.v (.int .u64 r)),dI k,t] [.row 0 1 es])
theorem Nw (n:Nat)(a:List Nat)(es:List D)(d l r:Nat):EX E0 (n+60) smB (QR a es d l (-1) r .u)=some (.exit 0,QR a es d l (-1) r (dB false)):=by
 unfold QR;simp[smB,f233]
theorem GD (n:Nat)(a:List Nat)(es:List D)(l d k r x:Nat)(hk:k<l)(hl:l<=1000000000)(hx:a[k]?=some x)(hx32:x<4294967296)(hd:d<4294967296)(hr:r<d)(he:es.length=l)
  (hz:es[k]?=some (.v (.int .u32 0))) :
  EX E0 (n+60) smB (QR a es d l k r .u)=some (.norm,QR a (es.set k (.v (.int .u32 (((r*4294967296+x) / d:Nat):Int)))) d l ((k:Int)-1) ((r*4294967296+x) % d) .u):=by
 have hdec:av .i64 ((k:Int)-1)=(k:Int)-1:=wrap_i64 ae;have hk0:(0:Int)<=(k:Int):=ae;have hk':k<l:=hk;have hxa:(LL a)[k]?=some (.v (.int .u32 (x:Int))):=by simp[LL,hx]
 have agV:=idx hxa;have hz2:=idx hz;have hla:k<a.length:=(aS hx)
 have hq:(r*4294967296+x) / d<4294967296:=yn hr hx32;have hm:(r*4294967296+x) % d<d:=Qu0 _ ae;have w2:av .u64 (x:Int)=(x:Int):=wrap_u64 ae;have w4:av .u64 (d:Int)=(d:Int):=wrap_u64 ae;have hd0:¬ ((d:Int)=0):=ae;have WA:¬ d=0:=ae;obtain⟨R,hR⟩:∃ R:Nat,R=r*4294967296:=⟨_,rfl⟩
 obtain⟨Y,hY⟩:∃ Y:Nat,Y=r*4294967296+x:=⟨_,rfl⟩
 have w1:JK .u64 (r:Int) 32=(R:Int):=by rw[QQ ae];omega
 have w3:GA .u64 (R:Int) (x:Int)=(Y:Int):=by
  have:=z8 (r:=r) (x:=x) ae hx32;rw[show(R:Int)=(r:Int)*4294967296 by omega,this];omega
 rw[<-hY]at hq hm ⊢;clear hY hR;have w5:Int.tdiv (Y:Int) (d:Int)=((Y / d:Nat):Int):=by rw[Q40 ae,Xz0]
 have w6:Int.tmod (Y:Int) (d:Int)=((Y % d:Nat):Int):=by rw[Xb0 ae,Int.natCast_emod]
 generalize Y / d=qq,Y % d=mm at*;have w7:av .u64 (qq:Int)=(qq:Int):=wrap_u64 ae;have w8:av .u32 (qq:Int)=(qq:Int):=wrap_u32 ae;unfold QR;simp only[LD];generalize LL a=xs at*;simp[IntKind.bits,smB,f233,hk',hk0,hdec,hxa,agV,hz,hz2,w1,w2,w3,w4,w5,w6,w7,w8,hd0,WA]
def jD (m:Nat)(q:List Nat):List Nat:=List.replicate m 0++q
theorem L6 (q:List Nat)(m:Nat):(LL (jD (m+1) q))[m]?=some (.v (.int .u32 0)):=by
 simp[LL,jD,Qa0]
theorem GG (q:List Nat)(m v:Nat):(LL (jD (m+1) q)).set m (.v (.int .u32 (v:Int)))=LL (jD m (v::q)):=by
 simp only[LL,jD,Qr0,List.map_replicate,List.replicate_succ',Qk2];rw[Qv2 _ _ aC];simp
theorem qJ (q:List Nat)(m:Nat):(LL (jD m q)).length=m+q.length:=by simp[LL,jD]
def smI (a:List Nat)(d:Nat)(t:Nat × List Nat × Nat):Prop :=
 t.1<=a.length/\t.1+t.2.1.length=a.length/\t.2.2<d/\bP t.2.1/\val (a.drop t.1)=val t.2.1*d+t.2.2
theorem JL {B V d r x Y:Nat}(hY:Y=r*B+x):x+B*(V*d+r)=(Y / d+B*V)*d+Y % d:=by
 have:=Xr2 Y d;rw[Qu1];have e:B*(V*d+r)=B*V*d+r*B:=by rw[Q92,Q32,Qm1 r B]
 rw[e,Qm1 (Y / d) d];omega
theorem JM (a:List Nat)(d:Nat)(la:a.length<=1000000000)(ha:bP a)(hd:d<4294967296)(hd0:0<d) :
  ∃ r,Ex E0 (.loop smB) (QR a (LL (jD a.length [])) d a.length ((a.length:Int)-1) 0 .u) r /\
   ∃ q m,bP q/\q.length=a.length/\val q=val a / d/\m=val a % d/\r=(.exit 0,QR a (LL q) d a.length (-1) m (dB false)):=by
 refine Ex.inv (S:=fun t:Nat × List Nat × Nat=>QR a (LL (jD t.1 t.2.1)) d a.length ((t.1:Int)-1) t.2.2 .u) (fun t=>t.1) (smI a d) _ ?_ (a.length,[],0) ?_
 ·rintro⟨k,q,r⟩ ⟨h1,h2,h3,h4,h5⟩;simp only at h1 h2 h3 h4 h5;cases k with
  | zero =>
   refine .inr ⟨_,?_,?_,q,r,h4,ae,?_,?_,rfl⟩
   ·have:=Nw 0 a (LL q) d a.length r;simpa[jD] using Ex.of this
   ·simp
   ·rw[Xu1]at h5;rw[h5,Qm1,Xl0 hd0,Q82 h3];rfl
   ·rw[Xu1]at h5;rw[h5,Qm1,X01,Qw1 h3]
  | succ k =>
   have hx:a[k]?=some (a[k]'(by omega)):=Qa1 ae;have hx32:a[k]'(by omega)<4294967296:=ha _ (Qj1 _);have hat:bC a k=a[k]'(by omega):=by simp[bC,hx]
   generalize a[k]'(by omega)=x at hx hx32 hat;have hr:=GD 0 a (LL (jD (k+1) q)) a.length d k r x ae la hx hx32 hd h3 (by rw[qJ];omega) (L6 q k);rw[GG]at hr;refine .inl ⟨(k,(r*4294967296+x) / d::q,(r*4294967296+x) % d),?_,aC,?_,?_,?_,?_,?_⟩
   ·simp only;rw[show(((k+1:Nat):Int)-1)=(k:Int) by omega];exact Ex.of hr
   ·simp only;omega
   ·simp only[Qf2];omega
   ·exact Qu0 _ hd0
   ·intro y hy;rcases Qg1.1 hy with rfl|hy
    ·exact yn h3 hx32
    ·exact h4 y hy
   ·simp only[val];rw[iJ,hat,h5];exact JL rfl
 ·refine⟨aC,aC,hd0,?_,?_⟩
  ·intro x hx;cases hx
  ·simp[val]
theorem QS (a:List Nat)(d:Nat)(la:a.length<=1000000000)(ha:bP a)(hd:d<4294967296)(hd0:0<d) :
  Ca E0 aaC [.d (LD a),.d (.v (.int .u32 d))] (.d (.t [LD (enc (val a / d)),.v (.int .u32 ((val a % d:Nat):Int))]),none):=by
 obtain⟨r,hl,q,m,hq,hql,hv,hm,rfl⟩:=JM a d la ha hd hd0;obtain⟨n0,hc⟩:=(gQ q ae).get;rw[b_ hq,hv]at hc;have hlo:(LL q).length=a.length:=by simp[LL,hql]
 have hla:(LL a).length=a.length:=by simp[LL]
 have htk:(LL q).take a.length=LL q:=Qe0 ae;have hz:LL (jD a.length [])=List.replicate a.length (.v (.int .u32 0)):=by simp[LL,jD]
 have hmd:m<4294967296:=by have:=Qu0 (val a) hd0;omega
 have hw:av .u32 (m:Int)=(m:Int):=wrap_u32 ae;rw[<-hm];generalize enc (val a / d)=res at*;refine Ca.body (o:=.ret) (st1:=(st0 (.u::.u::.d (LD res)::.d (.v (.int .u32 m))::mO) [.fU 0 1 (LL q)])) rfl (aN 233 f233:E0.fn _=_) rfl ?_ (by intro id h;cases h) ?_
 ·show Ex E0 (.seq zZ.body.l (.seq zZ.body.r.l (.seq (.seq zZ.body.r.r.l.l (.block 0 (.loop smB))) zZ.body.r.r.r))) _ _;refine Ex.seq (st1:=(st0 (.d (LD a)::.d (.v (.int .u32 d))::qm) [])) (Ex.of (n:=40) ?_)
   (Ex.seq (st1:=(st0 [.d (LD a),.d (.v (.int .u32 d)),.u,.u,.ls (.loc 0) 0 1 0 a.length,.d (.v (.int .u64 0)),.u,.u] [.row 0 1 (LL (jD a.length []))])) (Ex.of (n:=40) ?_)
   (Ex.seq (Ex.seq (Ex.of (n:=40) ?_) hl.block) (Ex.of (n:=n0+40) ?_)))
  ·simp[f233]
  ·have hm1:(a.length:Int)*4<=1099511627776:=ae;have hm2:(a.length:Int)<=1099511627776:=ae;rw[hz];simp[f233,LD,hla,hm1,hm2,most]
  ·have hdec:av .i64 ((a.length:Int)-1)=(a.length:Int)-1:=wrap_i64 ae;unfold QR;simp[f233,LD,hla,hdec]
  ·unfold QR;simp only[LD]at hc ⊢;clear hl;generalize LL q=es at*;simp[ai.view,f233,hlo,htk,hc,hw]
 ·simp[f233,LD,lY]
abbrev QT:Nat:=188
abbrev z_:bI:=f188
theorem zw:∀ (O:List Nat) (m v:Nat),m<O.length->val (O.set m v)+4294967296 ^ m*bC O m=val O+4294967296 ^ m*v
 | [],m,v,h=>by simp at h
 | y::r,0,v,_=>by simp[val,bC];omega
 | y::r,m+1,v,h=>by
  have ih:=zw r m v (by simpa using h);rw[X42,val,val];have:bC (y::r) (m+1)=bC r m:=by simp[bC]
  rw[this,Qn1];generalize 4294967296 ^ m=p,bC r m=q at*;have e1:p*4294967296*q=4294967296*(p*q):=by grind
  have e2:p*4294967296*v=4294967296*(p*v):=by grind
  rw[e1,e2];omega
theorem ET {O:List Nat}(h:bP O){m v:Nat}(hv:v<4294967296):bP (O.set m v):=by
 intro x hx;rcases Xd0 hx with h1|h1
 ·exact h x h1
 ·omega
def EU:aF:=z_.body.r.r.l.r.bl.lp
def tjB:aF:=EU.r.r.l.bl.r.r.r.bl.lp
def QU (a b O:List Nat)(n i s j:Nat)(t:FV):St:=(st0 [.d (LD a),.d (LD b),.u,.ls (.loc 0) 0 1 0 n,dI i,.d (.v (.int .u64 s)),dI j,dI a.length,dI i,.u,t] [.row 0 1 (LL O)])
theorem Ny (n:Nat)(a b O:List Nat)(l i j:Nat)(hj:¬ j<b.length):EX E0 (n+60) tjB (QU a b O l i 0 j .u)=some (.exit 2,QU a b O l i 0 j (dB false)):=by
 have hlb:(LL b).length=b.length:=by simp[LL]
 unfold QU;simp only[LD];generalize LL b=bs,LL a=as' at*;simp[tjB,EU,f188,hlb,hj]
theorem GH (n:Nat)(a b O:List Nat)(l i s j T:Nat)(hc:j<b.length\/0<s)(hm:i+j<l)(hl:l<=1000000000)(la:a.length<=1000000000)(lb:b.length<=1000000000)(ha:bP a)(hb:bP b)(hO:bP O)
  (he:O.length=l) (hs:s<4294967296) (hT:T=s+(bC O (i+j)+bC a i*bC b j)) :
  EX E0 (n+60) tjB (QU a b O l i s j .u)=some (.norm,QU a b (O.set (i+j) (T % 4294967296)) l i (T / 4294967296) (j+1) .u):=by
 have h1:=fun m=>jK m a la i ae ha
 have h2:=fun m=>jK m b lb j ae hb
 have xa:=cz ha i;have xb:=cz hb j;have xo:=cz hO (i+j);have ho:(LL O)[i+j]?=some (.v (.int .u32 (bC O (i+j):Int))):=by
  have:O[i+j]?=some (O[i+j]'(by omega)):=Qa1 ae;simp[LL,bC,this]
 have hset:LL (O.set (i+j) (T % 4294967296))=(LL O).set (i+j) (.v (.int .u32 ((T % 4294967296:Nat):Int))):=by simp[LL,Q41]
 have hlb:(LL b).length=b.length:=by simp[LL]
 simp only[LD]at h1 h2;have aP:av .i64 ((j:Int)+1)=(j:Int)+1:=wrap_i64 ae;have hk1:((j+1:Nat):Int)=(j:Int)+1:=ae;unfold QU;rw[hset,hk1];generalize bC a i=x,bC b j=y,bC O (i+j)=o at*;have hxy:x*y<=4294967295*4294967295:=Xb2 ae ae;have wm:av .i64 ((i:Int)+(j:Int))=((i+j:Nat):Int):=by rw[wrap_i64 ae];omega
 generalize i+j=m at*;obtain⟨P,hP⟩:∃ P:Nat,P=x*y:=⟨_,rfl⟩
 have w1:av .u64 ((x:Int)*(y:Int))=(P:Int):=by rw[<-Int.natCast_mul,<-hP];exact wrap_u64 ae
 rw[<-hP]at hT hxy;have w2:av .u64 (o:Int)=(o:Int):=wrap_u64 ae;obtain⟨Q,hQ⟩:∃ Q:Nat,Q=o+P:=⟨_,rfl⟩
 have w3:av .u64 ((o:Int)+(P:Int))=(Q:Int):=by rw[wrap_u64 ae];omega
 have w4:av .u64 ((s:Int)+(Q:Int))=(T:Int):=by rw[wrap_u64 ae];omega
 have w5:av .u32 (T:Int)=((T % 4294967296:Nat):Int):=by rw[dA];omega
 have w6:Int.fdiv (T:Int) 4294967296=((T / 4294967296:Nat):Int):=by rw[Qm2 _ ae];omega
 clear hP hQ hT hxy;generalize T % 4294967296=lo,T / 4294967296=hi at*;have hm0:(0:Int)<=(m:Int):=ae;have ho2:=idx ho;simp only[LD];generalize LL b=bs,LL a=as',LL O=es at*
 by_cases hj:j<b.length
 ·simp[IntKind.bits,tjB,EU,f188,hlb,hj,h1,h2,aP,wm,hm,hm0,ho,ho2,w1,w2,w3,w4,w5,w6]
 ·have hs0:0<s:=ae;simp[IntKind.bits,tjB,EU,f188,hlb,hj,hs0,h1,h2,aP,wm,hm,hm0,ho,ho2,w1,w2,w3,w4,w5,w6]
theorem JN {V V' P o lo hi s xy:Nat}(h1:V'+P*o=V+P*lo)(h2:s+(o+xy)=lo+4294967296*hi):V'+hi*(P*4294967296)=V+s*P+P*xy:=by
 have h3:P*(s+(o+xy))=P*(lo+4294967296*hi):=by rw[h2]
 grind
def tjI (a b:List Nat)(n i:Nat)(t:List Nat × Nat × Nat):Prop :=
 t.1.length=n/\bP t.1/\t.2.1<4294967296/\val t.1+t.2.1*4294967296 ^ (i+t.2.2)=bW a i*val b+4294967296 ^ i*(bC a i*bW b t.2.2)
theorem Aa {a b:List Nat}{i j:Nat}(hj:b.length<=j):bW a i*val b+4294967296 ^ i*(bC a i*bW b j)=bW a (i+1)*val b:=by
 rw[eU hj,dS,Qu1,Q32]
theorem QV {a b:List Nat}(ha:bP a)(hb:bP b)(i:Nat):bW a (i+1)*val b<4294967296 ^ (i+1+b.length):=by
 have h1:=nP ha (i+1);have h2:=nH hb;rw[Qx2];exact Nat.mul_lt_mul_of_lt_of_le h1 (X02 h2) (Qt0 ae)
theorem JO {a b O:List Nat}{i j s:Nat}(ha:bP a)(hb:bP b)(hj:b.length<=j)
  (h:val O+s*4294967296 ^ (i+j)=bW a i*val b+4294967296 ^ i*(bC a i*bW b j)) (hs:0<s):j=b.length:=by
 rw[Aa hj]at h;have h1:=QV ha hb i;rcases Qg2 b.length j with h2|h2
 ·exfalso;have h3:4294967296 ^ (i+1+b.length)<=4294967296 ^ (i+j):=Qu2 ae ae;have h4:4294967296 ^ (i+j)<=s*4294967296 ^ (i+j):=Nat.le_mul_of_pos_left _ hs;omega
 ·omega
theorem GI (a b O:List Nat)(i:Nat)(hi:i<a.length)(la:a.length<=100000000)(lb:b.length<=100000000)(ha:bP a)(hb:bP b)(hO:bP O)(he:O.length=a.length+b.length)(hv:val O=bW a i*val b) :
  ∃ r,Ex E0 (.loop tjB) (QU a b O (a.length+b.length) i 0 0 .u) r/\∃ O' j,bP O'/\O'.length=a.length+b.length/\val O'=bW a (i+1)*val b /\
   r=(.exit 2,QU a b O' (a.length+b.length) i 0 j (dB false)):=by
 refine Ex.inv (S:=fun t:List Nat × Nat × Nat=>QU a b t.1 (a.length+b.length) i t.2.1 t.2.2 .u) (fun t=>b.length+2-t.2.2) (tjI a b (a.length+b.length) i) _ ?_ (O,0,0) ?_
 ·rintro⟨O,s,j⟩ ⟨h1,h2,h3,h4⟩;simp only at h1 h2 h3 h4
  by_cases hc:j<b.length\/0<s
  ·have hjb:j<=b.length:=by
    rcases Qg2 j b.length with h|h
    ·omega
    ·exact Nat.le_of_eq (JO ha hb h h4 ae)
   have hr:=GH 0 a b O (a.length+b.length) i s j _ hc ae ae ae ae ha hb h2 h1 h3 rfl;have hset:=zw O (i+j) ((s+(bC O (i+j)+bC a i*bC b j)) % 4294967296) ae;have xo:=cz h2 (i+j);have xa:=cz ha i;have xb:=cz hb j;have hxy:bC a i*bC b j<=4294967295*4294967295:=Xb2 ae ae;have hT:(s+(bC O (i+j)+bC a i*bC b j))=(s+(bC O (i+j)+bC a i*bC b j)) % 4294967296+4294967296*((s+(bC O (i+j)+bC a i*bC b j)) / 4294967296):=ae;refine .inl ⟨(O.set (i+j) ((s+(bC O (i+j)+bC a i*bC b j)) % 4294967296),(s+(bC O (i+j)+bC a i*bC b j)) / 4294967296,j+1),Ex.of hr,?_,?_,?_,?_,?_⟩
   ·simp only;omega
   ·simp[h1]
   ·exact ET h2 (Qu0 _ ae)
   ·simp only;generalize bC a i*bC b j=xy at*;omega
   ·simp only;have:=JN hset hT;rw[show i+(j+1)=(i+j)+1 by omega,Qn1,this,h4,dS];rw[Qx2];generalize 4294967296 ^ i=p;generalize 4294967296 ^ j=q;grind
  ·have hs:s=0:=ae;subst hs;have hj:b.length<=j:=ae;rw[Aa hj]at h4;refine .inr ⟨_,Ex.of (Ny 0 a b O (a.length+b.length) i j ae),aC,O,j,h2,h1,ae,rfl⟩
 ·exact⟨he,hO,aC,by simp[hv,bW,val]⟩
def Jy (a b O:List Nat)(i:Nat)(t:FV):St:=(st0 [.d (LD a),.d (LD b),.u,.ls (.loc 0) 0 1 0 (a.length+b.length),.u,.u,.u,dI a.length,dI i,t,.u] [.row 0 1 (LL O)])
theorem GJ (a b:List Nat)(la:a.length<=100000000)(lb:b.length<=100000000)(ha:bP a)(hb:bP b) :
  ∃ r,Ex E0 (.loop EU) (Jy a b (row0 [] (a.length+b.length)) 0 .u) r/\∃ O,bP O/\O.length=a.length+b.length/\val O=val a*val b/\r=(.exit 0,Jy a b O a.length (dB false)):=by
 refine Ex.inv (S:=fun t:List Nat × Nat=>Jy a b t.1 t.2 .u) (fun t=>a.length-t.2) (fun t=>t.2<=a.length/\t.1.length=a.length+b.length/\bP t.1/\val t.1=bW a t.2*val b) _ ?_ (row0 [] (a.length+b.length),0) ?_
 ·rintro⟨O,i⟩ ⟨h1,h2,h3,h4⟩;simp only at h1 h2 h3 h4
  by_cases hi:i<a.length
  ·obtain⟨r,hr,O',j,g1,g2,g3,rfl⟩:=GI a b O i hi la lb ha hb h3 h2 h4;refine .inl ⟨(O',i+1),?_,by simp only;omega,by simp only;omega,g2,g1,g3⟩;have aP:av .i64 ((i:Int)+1)=(i:Int)+1:=wrap_i64 ae;have hk1:((i+1:Nat):Int)=(i:Int)+1:=ae;show Ex E0 (.seq EU.l (.seq EU.r.l (.seq (.block 1 (.seq EU.r.r.l.bl.l (.seq EU.r.r.l.bl.r.l (.seq EU.r.r.l.bl.r.r.l (.block 2 (.loop tjB)))))) EU.r.r.r))) _ _;refine Ex.seq (st1:=Jy a b O i (dB true)) (Ex.of (n:=40) ?_) (Ex.seq (st1:=Jy a b O i (dB true)) (Ex.of (n:=40) ?_) (Ex.seq (Ex.fF
    (Ex.seq (st1:={Jy a b O i .u with vars:=[.d (LD a),.d (LD b),.u,.ls (.loc 0) 0 1 0 (a.length+b.length),dI i,.u,.u,dI a.length,dI i,.u,.u]}) (Ex.of (n:=40) ?_)
    (Ex.seq (st1:={Jy a b O i .u with vars:=[.d (LD a),.d (LD b),.u,.ls (.loc 0) 0 1 0 (a.length+b.length),dI i,.d (.v (.int .u64 0)),.u,dI a.length,dI i,.u,.u]}) (Ex.of (n:=40) ?_)
    (Ex.seq (Ex.of (n:=40) ?_) hr.block)))) (Ex.of (n:=40) ?_)))
   ·unfold Jy;simp[EU,f188,hi]
   ·unfold Jy;simp[EU,f188]
   ·unfold Jy;simp[EU,f188]
   ·unfold Jy;simp[EU,f188]
   ·unfold Jy QU;simp[EU,f188]
   ·unfold Jy QU;rw[hk1];simp[EU,f188,aP]
  ·have he:i=a.length:=ae;subst he;rw[eU (Qd1 _)]at h4;refine .inr ⟨_,Ex.of (n:=60) ?_,?_,O,h3,h2,h4,rfl⟩
   ·unfold Jy;simp[EU,f188]
   ·simp
 ·refine⟨aC,by simp[row0],?_,?_⟩
  ·intro x hx;simp[row0]at hx;omega
  ·have:∀ m,val (List.replicate m 0)=0:=by
    intro m
    induction m with
    | zero=>rfl
    | succ m ih=>rw[Q60,val,ih]
   simp[row0,bW,val,this]
theorem GK (a b:List Nat)(la:a.length<=100000000)(lb:b.length<=100000000)(ha:bP a)(hb:bP b) :
  Ca E0 QT [.d (LD a),.d (LD b)] (.d (LD (enc (val a*val b))),none):=by
 obtain⟨r,hl,o,ho,hol,hv,rfl⟩:=GJ a b la lb ha hb;obtain⟨n0,hc⟩:=(gQ o ae).get;rw[b_ ho,hv]at hc;have hlo:(LL o).length=a.length+b.length:=by simp[LL,hol]
 have hla:(LL a).length=a.length:=by simp[LL]
 have hlb:(LL b).length=b.length:=by simp[LL]
 have htk:(LL o).take (a.length+b.length)=LL o:=Qe0 ae;have hz:=u7 (a.length+b.length);generalize enc (val a*val b)=res at*;refine Ca.body (o:=.ret) (st1:=(st0 (.u::.u::.d (LD res)::zf) [.fU 0 1 (LL o)])) rfl (aN 188 f188:E0.fn _=_) rfl ?_ (by intro id h;cases h) ?_
 ·show Ex E0 (.seq z_.body.l (.seq z_.body.r.l (.seq (.seq z_.body.r.r.l.l (.block 0 (.loop EU))) z_.body.r.r.r))) _ _;refine Ex.seq (st1:=(st0 (.d (LD a)::.d (LD b)::CK) [])) (Ex.of (n:=40) ?_)
   (Ex.seq (st1:=(st0 (.d (LD a)::.d (LD b)::.u::.ls (.loc 0) 0 1 0 (a.length+b.length)::nO) [.row 0 1 (LL (row0 [] (a.length+b.length)))])) (Ex.of (n:=40) ?_)
   (Ex.seq (Ex.seq (Ex.of (n:=40) ?_) hl.block) (Ex.of (n:=n0+40) ?_)))
  ·simp[f188]
  ·have hw:av .i64 ((a.length:Int)+(b.length:Int))=((a.length+b.length:Nat):Int):=by rw[wrap_i64 ae];omega
   have hmb:a.length+b.length<=200000000:=ae;rw[hz];generalize a.length+b.length=m at*;have hm1:(m:Int)*4<=1099511627776:=ae;have hm2:(m:Int)<=1099511627776:=ae;simp[f188,LD,hla,hlb,hw,hm1,hm2,most]
  ·unfold Jy;simp[f188,LD,hla]
  ·unfold Jy;simp only[LD]at hc ⊢;clear hl;generalize LL o=es,a.length+b.length=m at*;simp[ai.view,f188,hlo,htk,hc]
 ·simp[f188,LD]
abbrev ZA:Nat:=226
abbrev yo:bI:=f226
abbrev agW:Nat:=183
abbrev aaF:bI:=f183
theorem nQ {d:Nat}(h0:0<d)(h:d<4294967296):enc d=[d]:=by
 rw[enc,if_neg ae,Qw1 h,Q82 h];simp[enc]
theorem df:enc 0=[]:=by simp[enc]
theorem GL (r:Nat)(h:r<4294967296):trim [r]=enc r:=by
 rw[b_ (by intro x hx;simp at hx;omega)];simp[val]
theorem QW (a:List Nat)(d:Nat)(la:a.length<=1000000000)(ha:bP a)(hd:d<4294967296)(hd0:0<d) :
  Ca E0 ZA [.d (LD a),.d (LD (enc d))] (.d (.t [LD (enc (val a / d)),LD (enc (val a % d))]),none):=by
 obtain⟨n0,hs⟩:=(QS a d la ha hd hd0).any;have hm:val a % d<4294967296:=by have:=Qu0 (val a) hd0;omega
 obtain⟨n1,hc⟩:=(gQ [val a % d] aC).any;replace hs:=hs (n0+n1) ae;replace hc:=hc (n0+n1) ae;generalize n0+n1=N at*;rw[GL _ hm]at hc;rw[nQ hd0 hd];generalize enc (val a / d)=q,val a % d=m at*;generalize enc m=r at*;simp only[LD,LL,Qe1,Qc2]at hs hc ⊢;refine Ca.bO (n:=N+60) ?_;rw[aB rfl (k226:E0.fn _=_) rfl];generalize List.map (fun(x:Nat)=>D.v (Value.int IntKind.u32 (x:Int))) a=as' at*;simp[f226,lY,hs,hc]
def gcB:aF:=aaF.body.r.l.bl.lp
def CW (a b:Nat)(t:FV):St:=(st0 [.d (LD (enc a)),.d (LD (enc b)),.u,.u,t] [])
theorem fG {n k:Nat}(h:n<4294967296 ^ k):(enc n).length<=k:=by
 induction k generalizing n with
 | zero => have : n = 0 := by simp at h;omega
           subst this;simp[df]
 | succ k ih =>
  rw[enc];split
  ·simp
  ·simp only[Qf2];have:=ih (n:=n / 4294967296) (by rw[Qn1]at h;omega);omega
theorem WB (a:Nat):Ex E0 gcB (CW a 0 .u) (.exit 0,CW a 0 (dB false)):=by
 refine Ex.of (n:=40) ?_;unfold CW;simp only[df,LD];generalize LL (enc a)=as';simp[gcB,f183,LL]
abbrev ad2:Nat:=267
abbrev DJ:bI:=f267
theorem NA {x s:Nat}(hx:x<4294967296)(hs:s<32):JK .u64 (x:Int) (s:Int)=((x*2 ^ s:Nat):Int):=by
 have hp:2 ^ s<=2147483648:=by
  have:=Qu2 (n:=2) ae (show s<=31 by omega);simpa using this
 have hxs:x*2 ^ s<=4294967295*2147483648:=Xb2 ae hp;rw[zt,<-cB];have h:(2:Int) ^ (min (Int.toNat (s:Int)) (IntKind.bits .u64))=((2 ^ s:Nat):Int):=by
  have:min (Int.toNat (s:Int)) (IntKind.bits .u64)=s:=by simp[IntKind.bits];omega
  rw[this];simp
 rw[h,<-Int.natCast_mul];exact wrap_u64 ae
theorem aaG {r x s:Nat}(hr:r<2 ^ s)(hx:x<4294967296)(hs:s<32):GA .u64 (r:Int) ((x*2 ^ s:Nat):Int)=((r+x*2 ^ s:Nat):Int):=by
 have hp:2 ^ s<=2147483648:=by
  have:=Qu2 (n:=2) ae (show s<=31 by omega);simpa using this
 have hxs:x*2 ^ s<=4294967295*2147483648:=Xb2 ae hp;rw[xh,<-cB]
 change av .u64 ((BitVec.ofInt 64 (r:Int) ||| BitVec.ofInt 64 ((x*2 ^ s:Nat):Int)).toNat:Int)=_
 have e:x*2 ^ s=x <<< s:=by rw[Nat.shiftLeft_eq]
 have l1:r<2 ^ 64:=ae;have l2:x <<< s<2 ^ 64:=by rw[<-e];omega
 rw[BitVec.ofInt_natCast,BitVec.ofInt_natCast,BitVec.toNat_or,BitVec.toNat_ofNat,BitVec.toNat_ofNat,e,Qw1 l1,Qw1 l2,Nat.or_comm,<-Xn1 hr,Xo1];refine wrap_u64 ?_;rw[<-e];omega
def leB:aF:=DJ.body.r.r.r.l.r.bl.lp
def WC (a o:List Nat)(k z j r:Nat)(t:FV):St:=(st0 [.u,dI k,.u,.ls (.loc 0) j 1 0 (z+j),.d (.v (.int .u64 r)),.u,.d (LD a),dI a.length,dI j,t] [.row j 1 (LL o)])
theorem JP (a o:List Nat)(k z s j r x:Nat)(hk:k=32*z+s)(hs:s<32)(hz:z<=100000000)(hx:a[j]?=some x)(hx32:x<4294967296)(la:a.length<=100000000)(ho:o.length=z+j)(hr:r<2 ^ s) :
  EX E0 60 leB (WC a o k z j r .u)=some (.norm,WC a (o++[(r+x*2 ^ s) % 4294967296]) k z (j+1) ((r+x*2 ^ s) / 4294967296) .u):=by
 have hj:=(aS hx)
 have hx':(LL a)[j]?=some (.v (.int .u32 (x:Int))):=by simp[LL,hx]
 have hx2:=idx hx';have hp:2 ^ s<=2147483648:=by
  have:=Qu2 (n:=2) ae (show s<=31 by omega);simpa using this
 have hxs:x*2 ^ s<=4294967295*2147483648:=Xb2 ae hp;have w1:av .u64 (x:Int)=(x:Int):=wrap_u64 ae;have w2:Int.tmod (k:Int) 32=(s:Int):=by rw[Xb0 ae];omega
 have w3:=NA hx32 hs;have w4:=aaG hr hx32 hs;have hT:∃ T:Nat,T=r+x*2 ^ s:=⟨_,rfl⟩
 obtain⟨T,hT⟩:=hT;rw[<-hT]at w4 ⊢;have hTb:T<18446744073709551616:=ae;have hP:∃ P:Nat,P=x*2 ^ s:=⟨_,rfl⟩
 obtain⟨P,hP⟩:=hP;rw[<-hP]at w3 w4;have w5:av .u32 (T:Int)=((T % 4294967296:Nat):Int):=by rw[dA];omega
 have w6:Int.fdiv (T:Int) 4294967296=((T / 4294967296:Nat):Int):=by rw[Qm2 _ ae];omega
 have aP:av .i64 ((j:Int)+1)=(j:Int)+1:=wrap_i64 ae;have hk1:((j+1:Nat):Int)=(j:Int)+1:=ae;have hj0:(0:Int)<=(j:Int):=ae;have hs0:¬ ((s:Int)<0):=ae;have hol:(LL o).length=z+j:=by simp[LL,ho]
 have htk:(LL o).take (z+j)=LL o:=Qe0 ae;have hm1:(z+j+1)*4<=most:=by simp[most];omega
 have hm2:z+j+1<=most:=by simp[most];omega
 have Qi:LL (o++[T % 4294967296])=LL o++[.v (.int .u32 ((T % 4294967296:Nat):Int))]:=by simp[LL]
 clear hT hP hxs hp hTb;generalize T % 4294967296=lo,T / 4294967296=hi at*;unfold WC;rw[Qi,hk1,<-Qv0];simp only[LD];generalize LL a=xs,LL o=es,z+j=m at*;simp[IntKind.bits,leB,f267,hj,hj0,hx',hx2,aP,hs0,w1,w2,w3,w4,w5,w6,hol,htk,hm1,hm2]
theorem left_step {V r Q x T W E:Nat}(h:V+r*Q=E*W)(hT:T=r+x):V+Q*(T % 4294967296)+T / 4294967296*(Q*4294967296)=E*W+Q*x:=by
 have h1:Q*(T % 4294967296)+T / 4294967296*(Q*4294967296)=Q*T:=by
  have:=Nat.mod_add_div T 4294967296;generalize T % 4294967296=a,T / 4294967296=b at*;subst this;grind
 have h2:Q*T=Q*r+Q*x:=by rw[hT,Q92]
 have h3:Q*r=r*Q:=Qm1 _ _;omega
theorem NB (m:Nat):val (List.replicate m 0)=0:=by
 induction m with
 | zero=>rfl
 | succ m ih=>rw[Q60,val,ih]
theorem NC (a:List Nat)(k z s:Nat)(hk:k=32*z+s)(hs:s<32)(hz:z<=100000000)(la:a.length<=100000000)(ha:bP a) :
  ∃ r,Ex E0 (.loop leB) (WC a (List.replicate z 0) k z 0 0 .u) r/\∃ o q,bP o/\o.length=z+a.length/\q<2 ^ s /\
   val o+q*4294967296 ^ (z+a.length)=4294967296 ^ z*2 ^ s*val a/\r=(.exit 0,WC a o k z a.length q (dB false)):=by
 refine Ex.inv (S:=fun t:List Nat × Nat × Nat=>WC a t.1 k z t.2.1 t.2.2 .u) (fun t=>a.length-t.2.1)
  (fun t=>t.2.1<=a.length/\t.1.length=z+t.2.1/\t.2.2<2 ^ s/\bP t.1/\val t.1+t.2.2*4294967296 ^ (z+t.2.1)=4294967296 ^ z*2 ^ s*bW a t.2.1) _ ?_ (List.replicate z 0,0,0) ?_
 ·rintro⟨o,j,r⟩ ⟨h1,h2,h3,h4,h5⟩;simp only at h1 h2 h3 h4 h5
  by_cases hj:j<a.length
  ·have hx:a[j]?=some (a[j]'hj):=Qa1 hj;have hx32:a[j]'hj<4294967296:=ha _ (Qj1 _);have hat:bC a j=a[j]'hj:=by simp[bC,hx]
   generalize a[j]'hj=x at hx hx32 hat;have hr:=JP a o k z s j r x hk hs hz hx hx32 la h2 h3;refine .inl ⟨(o++[(r+x*2 ^ s) % 4294967296],j+1,(r+x*2 ^ s) / 4294967296),Ex.of hr,by simp only;omega,by simp only;omega,?_,?_,?_,?_⟩
   ·simp only[Qb0,Qf2,Qw0];omega
   ·simp only;rw[Qt1 ae];have h6:x*2 ^ s+2 ^ s<=4294967296*2 ^ s:=by rw[<-Nat.succ_mul];exact Qh2 _ hx32
    rw[Qm1 (2 ^ s) 4294967296];omega
   ·exact gT h4 (fun y hy=>by simp at hy;subst hy;exact Qu0 _ ae)
   ·simp only;rw[val_append,h2,dS,hat,<-Qv0,Qn1];have hv:val [(r+x*2 ^ s) % 4294967296]=(r+x*2 ^ s) % 4294967296:=by simp[val]
    rw[hv,left_step h5 rfl,Qx2];generalize 4294967296 ^ z=p;generalize 4294967296 ^ j=q;generalize 2 ^ s=t;grind
  ·have he:j=a.length:=ae;subst he;rw[eU (Qd1 _)]at h5;refine .inr ⟨_,Ex.of (n:=60) ?_,?_,o,r,h4,h2,h3,h5,rfl⟩
   ·unfold WC;simp[leB,f267]
   ·simp
 ·refine⟨aC,aC,Qt0 ae,?_,?_⟩
  ·intro x hx;have:=List.eq_of_mem_replicate hx;omega
  ·simp[NB,bW,val]
theorem zx (a:List Nat)(k:Nat)(hk:k<=3200000000)(la:a.length<=100000000)(ha:bP a) :
  Ca E0 ad2 [.d (LD a),dI k] (.d (LD (enc (val a*2 ^ k))),none):=by
 obtain⟨z,s,hzs,hs⟩:∃ z s,k=32*z+s/\s<32:=⟨k / 32,k % 32,ae,ae⟩
 have hz:z<=100000000:=ae;obtain⟨r,hl,o,q,ho,hol,hq,hv,rfl⟩:=NC a k z s hzs hs hz la ha;have hp:2 ^ s<=2147483648:=by
  have:=Qu2 (n:=2) ae (show s<=31 by omega);simpa using this
 have aiW:q<4294967296:=ae;have hres:val (o++[q])=val a*2 ^ k:=by
  have e:2 ^ (32*z+s)=4294967296 ^ z*2 ^ s:=by rw[Qx2,X41]
  have hv2:val [q]=q:=by simp[val]
  rw[val_append,hol,hzs,e,hv2,Qm1 _ q,hv,Qm1]
 have hlim:bP (o++[q]):=gT ho (fun y hy=>by simp at hy;omega);obtain⟨n0,hc⟩:=(gQ (o++[q]) (by simp;omega)).get;rw[b_ hlim,hres]at hc;have Qi:LL (o++[q])=LL o++[.v (.int .u32 (q:Int))]:=by simp[LL]
 have hlo:(LL o).length=z+a.length:=by simp[LL,hol]
 have hla:(LL a).length=a.length:=by simp[LL]
 have htk:(LL o).take (z+a.length)=LL o:=Qe0 ae;have agX:(LL o++[D.v (.int .u32 (q:Int))]).take (z+a.length+1)=LL o++[.v (.int .u32 (q:Int))]:=Qe0 (by simp;omega);have hz0:LL (List.replicate z 0)=List.replicate z (.v (.int .u32 0)):=by simp[LL]
 have w5:av .u32 (q:Int)=(q:Int):=wrap_u32 ae;have hm1:(z+a.length+1)*4<=most:=by simp[most];omega
 have hm2:z+a.length+1<=most:=by simp[most];omega
 generalize enc (val a*2 ^ k)=res at*;refine Ca.body (o:=.ret) (st1:=(st0 (.u::.u::.d (LD res)::nO) ([.fU (a.length+1) 1 (LL (o++[q]))]))) rfl (aN 267 f267:E0.fn _=_) rfl ?_ (by intro id h;cases h) ?_
 ·show Ex E0 (.seq DJ.body.l (.seq DJ.body.r.l (.seq DJ.body.r.r.l (.seq (.seq DJ.body.r.r.r.l.l (.block 0 (.loop leB))) DJ.body.r.r.r.r)))) _ _;refine Ex.seq (st1:=(st0 (.d (LD a)::dI k::zf) [])) (Ex.of (n:=40) ?_)
   (Ex.seq (st1:=(st0 (.d (LD a)::dI k::.u::.ls (.loc 0) 0 1 0 z::qm) [.row 0 1 (LL (List.replicate z 0))])) (Ex.of (n:=40) ?_)
   (Ex.seq (st1:=(st0 (.d (LD a)::dI k::.u::.ls (.loc 0) 0 1 0 z::.d (.v (.int .u64 0))::iO) [.row 0 1 (LL (List.replicate z 0))])) (Ex.of (n:=40) ?_)
   (Ex.seq (Ex.seq (Ex.of (n:=40) ?_) hl.block) (Ex.of (n:=n0+40) ?_))))
  ·simp[f267]
  ·have v1:Int.tdiv (k:Int) 32=(z:Int):=by rw[Q40 ae];omega
   have v2:av .i64 (z:Int)=(z:Int):=wrap_i64 ae;have v3:av .i64 ((z:Int)+(a.length:Int))=(z:Int)+(a.length:Int):=wrap_i64 ae;have v4:av .i64 ((z:Int)+(a.length:Int)+1)=(z:Int)+(a.length:Int)+1:=wrap_i64 ae;have v5:(z:Int)<=(z:Int)+(a.length:Int)+1:=ae;have v6:((z:Int)+(a.length:Int)+1)*4<=1099511627776:=ae;have v7:(z:Int)+(a.length:Int)+1<=1099511627776:=ae;rw[hz0];clear hl;simp only[LD];generalize LL a=xs,a.length=m at*;simp[f267,hla,v1,v2,v3,v4,v5,v6,v7,most]
  ·simp[f267]
  ·unfold WC;simp[f267,LD,hla]
  ·unfold WC;rw[Qi];simp only[LD]at hc ⊢;rw[Qi]at hc;clear hl;generalize LL o=es,z+a.length=m at*;simp[ai.view,f267,hlo,htk,agX,hm1,hm2,w5,hc]
 ·simp[f267,LD]
abbrev aaH:Nat:=268
abbrev Ab:bI:=f268
def riD (a:List Nat)(s i:Nat):Nat:=(bC a i+4294967296*bC a (i+1)) / 2 ^ s % 4294967296
theorem GM {x y V s:Nat}(hs:s<32)(hx:x<4294967296) :
  (x+4294967296*(y+4294967296*V)) / 2 ^ s=(x+4294967296*y) / 2 ^ s % 4294967296+4294967296*((y+4294967296*V) / 2 ^ s):=by
 have hp:0<2 ^ s:=Qt0 ae;have hq:2 ^ s*2 ^ (32-s)=4294967296:=by rw[<-Qx2,show s+(32-s)=32 by omega]
 generalize 2 ^ s=p,2 ^ (32-s)=q at*;have h1:=Nat.mod_add_div ((x+4294967296*(y+4294967296*V)) / p) 4294967296;have h2:(x+4294967296*(y+4294967296*V)) / p / 4294967296=(y+4294967296*V) / p:=by
  rw[Qy2,Qm1 p,<-Qy2]
  congr 1
  omega
 have h3:(x+4294967296*(y+4294967296*V)) / p=(x+4294967296*y) / p+4294967296*(q*V):=by
  have e:x+4294967296*(y+4294967296*V)=(x+4294967296*y)+p*(4294967296*(q*V)):=by
   have:4294967296*(4294967296*V)=p*(4294967296*(q*V)):=by rw[<-hq];grind
   omega
  rw[e,X1 _ _ hp]
 have h4:(x+4294967296*(y+4294967296*V)) / p % 4294967296=(x+4294967296*y) / p % 4294967296:=by rw[h3,Nat.add_mul_mod_self_left]
 rw[h2,h4]at h1;exact h1.symm
def riB:aF:=Ab.body.r.r.l.r.bl.lp
def QX (a o:List Nat)(k i j:Nat)(t:FV):St:=(st0 [.d (LD a),dI k,.u,dM j,dI i,t] (dN j (LL o)))
theorem ND (a o:List Nat)(k i j:Nat)(hi:¬ i<a.length):EX E0 60 riB (QX a o k i j .u)=some (.exit 0,QX a o k i j (dB false)):=by
 have hla:(LL a).length=a.length:=by simp[LL]
 unfold QX;simp only[LD];generalize LL a=xs,dM j=ov,dN j (LL o)=oh at*;simp[riB,f268,hla,hi]
theorem GN (a o:List Nat)(k z s i j:Nat)(hk:k=32*z+s)(hs:s<32)(hz:z<=100000000)(hi:i<a.length)(la:a.length<=100000000)(ha:bP a)(ho:o.length=j)(hj:j<=100000000) :
  EX E0 80 riB (QX a o k i j .u)=some (.norm,QX a (o++[riD a s i]) k (i+1) (j+1) .u):=by
 have hla:(LL a).length=a.length:=by simp[LL]
 have h1:=fun m=>jK m a ae (i+1) ae ha
 have h2:=fun m=>jK m a ae i ae ha
 have xa:=cz ha i;have xb:=cz ha (i+1);have hk1:((i+1:Nat):Int)=(i:Int)+1:=ae;have aP:av .i64 ((i:Int)+1)=(i:Int)+1:=wrap_i64 ae;simp only[LD,hk1]at h1 h2;unfold riD;generalize bC a i=x,bC a (i+1)=y at*;have w1:=QQ xb;have w2:=z8 xb xa;obtain⟨P,hP⟩:∃ P:Nat,(P:Int)=(y:Int)*4294967296:=⟨y*4294967296,ae⟩
 obtain⟨T,hT⟩:∃ T:Nat,T=x+4294967296*y:=⟨_,rfl⟩
 have hT2:(y:Int)*4294967296+(x:Int)=(T:Int):=ae;rw[hT2,<-hP]at w2;rw[<-hP]at w1;rw[<-hT];have w3:Int.fdiv (T:Int) (2 ^ (min s 64))=((T / 2 ^ s:Nat):Int):=by
  rw[show min s 64=s by omega,Qm2 _ (Int.pow_nonneg ae),Xz0];simp
 have w4:Int.tmod (k:Int) 32=(s:Int):=by rw[Xb0 ae];omega
 have hTq:T / 2 ^ s<18446744073709551616:=Q90 (Xl1 _ _) ae;generalize T / 2 ^ s=Q at*;have w5:av .u32 (Q:Int)=((Q % 4294967296:Nat):Int):=by rw[dA];omega
 have hs0:¬ ((s:Int)<0):=ae;have Qi:LL (o++[Q % 4294967296])=LL o++[.v (.int .u32 ((Q % 4294967296:Nat):Int))]:=by simp[LL]
 have hol:(LL o).length=j:=by simp[LL,ho]
 have hv1:dM (j+1)=.ls (.loc 0) j 1 0 (j+1):=by simp[dM]
 have C8:∀ l,dN (j+1) l=[.row j 1 l]:=by intro l;simp[dN]
 have hm1:(j+1)*4<=most:=by simp[most];omega
 have hm2:j+1<=most:=by simp[most];omega
 have htk:(LL o).take j=LL o:=Qe0 ae;clear hP hT hT2 hTq;unfold QX;rw[Qi,hv1,C8,hk1];generalize Q % 4294967296=lo at*
 by_cases hj0:j=0
 ·have hv:dM j=.d (.n 1):=by simp[dM,hj0]
  have hh:∀ l,dN j l=[]:=by intro l;simp[dN,hj0]
  have hLo:LL o=[]:=Qo1 ae;have hvk:FV.ls (.loc 0) 0 1 0 1=FV.ls (.loc 0) j 1 0 (j+1):=by rw[hj0]
  have hhk:∀ l,ai.row 0 1 l=ai.row j 1 l:=by intro l;rw[hj0]
  rw[hv,hh,hLo,<-hvk,<-hhk];simp only[LD];generalize LL a=xs at*;simp[IntKind.bits,riB,f268,hla,hi,h1,h2,aP,hs0,w1,w2,w3,w4,w5,most]
 ·have hv:dM j=.ls (.loc 0) (j-1) 1 0 j:=by simp[dM,hj0]
  have hh:∀ l,dN j l=[.row (j-1) 1 l]:=by intro l;simp[dN,hj0]
  have hk2:j-1+1=j:=ae;rw[hv,hh];simp only[LD];generalize LL a=xs,LL o=es at*;simp[IntKind.bits,riB,f268,hla,hi,h1,h2,aP,hs0,w1,w2,w3,w4,w5,hm1,hm2,hol,htk,hk2]
theorem JQ (a:List Nat)(k z s:Nat)(hk:k=32*z+s)(hs:s<32)(hz:z<=100000000)(la:a.length<=100000000)(ha:bP a) :
  ∃ r,Ex E0 (.loop riB) (QX a [] k z 0 .u) r/\∃ o i,bP o/\o.length<=a.length/\val o=val (a.drop z) / 2 ^ s/\r=(.exit 0,QX a o k i o.length (dB false)):=by
 refine Ex.inv (S:=fun t:List Nat × Nat=>QX a t.1 k (z+t.2) t.2 .u) (fun t=>a.length-t.2)
  (fun t=>t.1.length=t.2/\(t.2=0\/z+t.2<=a.length)/\bP t.1/\val t.1+4294967296 ^ t.2*(val (a.drop (z+t.2)) / 2 ^ s)=val (a.drop z) / 2 ^ s) _ ?_ ([],0) ?_
 ·rintro⟨o,j⟩ ⟨h1,h2,h3,h4⟩;simp only at h1 h2 h3 h4
  by_cases hi:z+j<a.length
  ·have hr:=GN a o k z s (z+j) j hk hs hz hi la ha h1 ae;refine .inl ⟨(o++[riD a s (z+j)],j+1),?_,by simp only;omega,?_,?_,?_,?_⟩
   ·simp only;rw[<-Qv0];exact Ex.of hr
   ·simp[h1]
   ·simp only;omega
   ·exact gT h3 (fun y hy=>by simp at hy;subst hy;exact Qu0 _ ae)
   ·simp only;rw[val_append,h1,<-h4,<-Qv0,iJ a (z+j),iJ a (z+j+1),GM hs (cz ha _),Qn1];have hv:val [riD a s (z+j)]=riD a s (z+j):=by simp[val]
    rw[hv];unfold riD;rw[Q92,Q32];omega
  ·rw[gU ae,Nat.zero_div,Nat.mul_zero,Q42]at h4;refine .inr ⟨_,Ex.of (ND a o k (z+j) j hi),aC,o,z+j,h3,ae,h4,by rw[h1]⟩
 ·refine⟨rfl,.inl rfl,?_,by simp[val]⟩;intro x hx;cases hx
theorem GQ:∀ (a:List Nat) (z:Nat),bP a->val (a.drop z)=val a / 4294967296 ^ z
 | a,0,_=>by simp
 | [],z+1,_=>by simp[val]
 | x::r,z+1,h=>by
  have hx:=h x (Qi0 ..);have e:(x+4294967296*val r) / (4294967296 ^ z*4294967296)=(x+4294967296*val r) / 4294967296 / 4294967296 ^ z:=by
   rw[Qm1 (4294967296 ^ z) 4294967296,Qy2]
  have e2:(x+4294967296*val r) / 4294967296=val r:=ae;rw[List.drop_succ_cons,GQ r z (fun y hy=>h y (Qf1 _ hy)),val,Qn1,e,e2]
theorem QY (a:List Nat)(k:Nat)(hk:k<=3200000000)(la:a.length<=100000000)(ha:bP a) :
  Ca E0 aaH [.d (LD a),dI k] (.d (LD (enc (val a / 2 ^ k))),none):=by
 obtain⟨z,s,hzs,hs⟩:∃ z s,k=32*z+s/\s<32:=⟨k / 32,k % 32,ae,ae⟩
 have hz:z<=100000000:=ae;obtain⟨r,hl,o,i,ho,hol,hv,rfl⟩:=JQ a k z s hzs hs hz la ha;have hres:val o=val a / 2 ^ k:=by
  rw[hv,GQ a z ha,Qy2,hzs,Qx2,X41]
 obtain⟨n0,hc⟩:=(gQ o ae).get;rw[b_ ho,hres]at hc;have hlo:(LL o).length=o.length:=by simp[LL]
 generalize enc (val a / 2 ^ k)=res at*;refine Ca.body (o:=.ret) (st1:=(st0 (.u::.u::.d (LD res)::DI) (if o.length=0 then [] else [.fU (o.length-1) 1 (LL o)]))) rfl (aN 268 f268:E0.fn _=_) rfl ?_ (by intro id h;cases h) ?_
 ·show Ex E0 (.seq Ab.body.l (.seq Ab.body.r.l (.seq (.seq Ab.body.r.r.l.l (.block 0 (.loop riB))) Ab.body.r.r.r))) _ _;refine Ex.seq (st1:=(st0 (.d (LD a)::dI k::mO) [])) (Ex.of (n:=40) ?_)
   (Ex.seq (st1:=(st0 [.d (LD a),dI k,.u,.d (.n 1),.u,.u] [])) (Ex.of (n:=40) ?_)
   (Ex.seq (Ex.seq (Ex.of (n:=40) ?_) hl.block) (Ex.of (n:=n0+40) ?_)))
  ·simp[f268]
  ·simp[f268]
  ·have v1:Int.tdiv (k:Int) 32=(z:Int):=by rw[Q40 ae];omega
   have v2:av .i64 (z:Int)=(z:Int):=wrap_i64 ae;unfold QX;simp[f268,v1,v2,dM,dN]
  ·unfold QX;simp only[LD]at hc ⊢
   by_cases hk0:o.length=0
   ·have hLo:LL o=[]:=Qo1 ae;have hv1:dM o.length=.d (.n 1):=by simp[dM,hk0]
    have C8:∀ l,dN o.length l=[]:=by intro l;simp[dN,hk0]
    rw[if_pos hk0,hv1,C8];rw[hLo]at hc;clear hl;simp[f268,hc]
   ·have htk:(LL o).take o.length=LL o:=Qe0 ae;have hv1:dM o.length=.ls (.loc 0) (o.length-1) 1 0 o.length:=by simp[dM,hk0]
    have C8:∀ l,dN o.length l=[.row (o.length-1) 1 l]:=by intro l;simp[dN,hk0]
    rw[if_neg hk0,hv1,C8];clear hl;generalize LL o=es,o.length=m at*;simp[ai.view,f268,hlo,htk,hc]
 ·simp[f268,LD]
set_option maxRecDepth 100000
abbrev aaJ:Nat:=303
abbrev ad3:Nat:=287
abbrev ah':bI:=f287
abbrev WE:Nat:=266
abbrev agq:bI:=f266
def fH (x:Nat):Nat:=if x=0 then 0 else Nat.log2 x+1
def oF:ByteArray:=⟨#[0,1,2,2,3,3,3,3,4,4,4,4,4,4,4,4,5,5,5,5,5,5,5,5,5,5,5,5,5,5,5,5,6,6,6,6,6,6,6,6,6,6,6,6,6,6,6,6,6,6,6,6,6,6,6,6,6,6,6,6,6,6,6,6,7,7,7,7,7,7,7,7,7,7,7,7,7,7,7,7,7,7,7,7,7,7,7,7,7,7,7,7,7,7,7,7,7,7,7,7,7,7,7,7,7,7,7,7,7,7,7,7,7,7,7,7,7,7,7,7,7,7,7,7,7,7,7,7,8,8,8,8,8,8,8,8,8,8,8,8,8,8,8,8,8,8,8,8,8,8,8,8,8,8,8,8,8,8,8,8,8,8,8,8,8,8,8,8,8,8,8,8,8,8,8,8,8,8,8,8,8,8,8,8,8,8,8,8,8,8,8,8,8,8,8,8,8,8,8,8,8,8,8,8,8,8,8,8,8,8,8,8,8,8,8,8,8,8,8,8,8,8,8,8,8,8,8,8,8,8,8,8,8,8,8,8,8,8,8,8,8,8,8,8,8,8,8,8,8,8,8,8,8,8,8,8]⟩
def GR (t:ByteArray):bI:={np:=1,nv:=4,ref:=false,res:=[.var 1],body:=(.seq (.region [⟨false,none,.zy (.c (vI 0))⟩] [(1,0)] []) (.seq (.seq (.region [⟨false,none,.zy (.var 0)⟩,⟨false,none,.bin .geq (.loc 0) (.c (.v (.int .u32 65536)))⟩] [(2,1)] []) (.cond (.var 2) (.seq (.seq (.region [⟨false,none,.zy (.var 0)⟩,⟨false,none,.bin .shr (.loc 0) (.c (.v (.int .u64 16)))⟩,⟨false,none,.zy (.loc 1)⟩] [(0,2)] []) (.kill [1,2])) (.region [⟨false,none,.zy (.c (vI 16))⟩] [(1,0)] [])) .skip)) (.seq (.seq (.seq (.region [⟨false,none,.zy (.var 0)⟩,⟨false,none,.bin .geq (.loc 0) (.c (.v (.int .u32 256)))⟩] [(3,1)] []) (.kill [2])) (.cond (.var 3) (.seq (.seq (.region [⟨false,none,.zy (.var 0)⟩,⟨false,none,.bin .shr (.loc 0) (.c (.v (.int .u64 8)))⟩,⟨false,none,.zy (.loc 1)⟩] [(0,2)] []) (.kill [3])) (.region [⟨false,none,.zy (.var 1)⟩,⟨false,none,.bin .add (.loc 0) (.c (vI 8))⟩,⟨false,none,.zy (.loc 1)⟩] [(1,2)] [])) .skip)) (.seq (.seq (.region [⟨false,none,.zy (.var 1)⟩,⟨false,none,.zy (.var 0)⟩,⟨false,none,.conv .u8 (.loc 1)⟩,⟨false,none,.uf (.c (.v (.string t))) (.loc 2)⟩,⟨false,none,.conv .i64 (.loc 3)⟩,⟨false,none,.bin .add (.loc 0) (.loc 4)⟩,⟨false,none,.zy (.loc 5)⟩] [(1,6)] []) (.kill [0,3])) .ret))))}
theorem WG:f303=GR oF:=rfl
theorem WH:((List.range 256).all fun i=>match oF[i]? with|some b=>Nat.beq b.toNat (fH i)|none=>false)=true:=by kernel_rfl
theorem WI {i:Nat}(h:i<256):∃ b:UInt8,oF[i]?=some b/\b.toNat=fH i:=by
 have:=aaK WH h;cases hb:oF[i]? with
 | none=>rw[hb]at this;cases this
 | some b=>rw[hb]at this;exact⟨b,rfl,Qk1 this⟩
theorem ug {x s:Nat}(h:2 ^ s<=x):fH x=fH (x / 2 ^ s)+s:=by
 have hp:0<2 ^ s:=Qt0 ae;have h1:0<x / 2 ^ s:=Xw2 h hp;unfold fH;rw[if_neg ae,if_neg ae];have h2:Nat.log2 x=Nat.log2 (x / 2 ^ s)+s:=by
  rw[Nat.log2_eq_iff ae];have a1:=Nat.log2_self_le (n:=x / 2 ^ s) ae;have a2:=Nat.lt_log2_self (n:=x / 2 ^ s);constructor
  ·rw[Qx2];exact Qe2 (Qh2 _ a1) (X22 x (2 ^ s))
  ·rw[show Nat.log2 (x / 2 ^ s)+s+1=(Nat.log2 (x / 2 ^ s)+1)+s by omega,Qx2];exact(Qt1 hp).1 a2
 omega
theorem Dy {E:Env}{st:St}{rec:Nat->List FV->List ai->bF}{env:List FV}{draw:Bool}{x i:Arg}:RK E rec draw st env (.uf x i)=runK E rec draw st env (.uf x i):=bZ ..
theorem wrap_u8 {z:Int}(h:0<=z/\z<256):av .u8 z=z:=by
 rw[cB];simp only[IntKind.wrap,IntKind.bits,IntKind.signed];simp;omega
theorem zz {x:Nat}(h:x<4294967296):fH x<=32:=by
 unfold fH;split
 ·omega
 ·have:=(Nat.log2_lt (n:=x) (k:=32) ae).2 ae;omega
theorem NF (n x:Nat)(hx:x<4294967296):CL E0 (n+40) aaJ [.d (.v (.int .u32 x))] []=some (dI (fH x),none):=by
 rw[aB rfl ((aN 303 f303:E0.fn _=_).trans (congrArg some WG)) rfl];have fin:∀ (y m:Nat),y<256->m<=24->fH x=fH y+m->∃ b:UInt8,oF[y]?=some b/\av .u8 (y:Int)=(y:Int)/\av .i64 ((b.toNat:Nat):Int)=((b.toNat:Nat):Int) /\
   av .i64 ((m:Int)+((b.toNat:Nat):Int))=(fH x:Int):=by
  intro y m hy hm he;obtain⟨b,h1,h2⟩:=WI hy;have hb:=b.toNat_lt;exact⟨b,h1,wrap_u8 ae,wrap_i64 ae,by rw[wrap_i64 ae];omega⟩
 by_cases hA:65536<=x
 ·have hA':(65536:Int)<=(x:Int):=ae;have w1:Int.fdiv (x:Int) 65536=((x / 65536:Nat):Int):=by rw[Qm2 _ ae];omega
  have e1:fH x=fH (x / 65536)+16:=ug (s:=16) ae;have hx1:x / 65536<65536:=ae;generalize x / 65536=x1 at*
  by_cases hB:256<=x1
  ·have hB':(256:Int)<=(x1:Int):=ae;have w2:Int.fdiv (x1:Int) 256=((x1 / 256:Nat):Int):=by rw[Qm2 _ ae];omega
   have e2:fH x1=fH (x1 / 256)+8:=ug (s:=8) ae;have hx2:x1 / 256<256:=ae;generalize x1 / 256=x2 at*;obtain⟨b,f1,f2,f3,f4⟩:=fin x2 24 hx2 ae ae;have w3:av .i64 24=24:=wrap_i64 ae;have hp:(0:Int)<=(x2:Int):=ae;generalize oF=tb at*;simp[IntKind.bits,GR,hA',hB',w1,w2,w3,f1,f2,f3,hp];simpa using f4
  ·have hB':¬ (256:Int)<=(x1:Int):=ae;obtain⟨b,f1,f2,f3,f4⟩:=fin x1 16 ae ae ae;have hp:(0:Int)<=(x1:Int):=ae;generalize oF=tb at*;simp[IntKind.bits,GR,hA',hB',w1,f1,f2,f3,hp];simpa using f4
 ·have hA':¬ (65536:Int)<=(x:Int):=ae
  by_cases hB:256<=x
  ·have hB':(256:Int)<=(x:Int):=ae;have w2:Int.fdiv (x:Int) 256=((x / 256:Nat):Int):=by rw[Qm2 _ ae];omega
   have e2:fH x=fH (x / 256)+8:=ug (s:=8) ae;have hx2:x / 256<256:=ae;generalize x / 256=x2 at*;obtain⟨b,f1,f2,f3,f4⟩:=fin x2 8 hx2 ae ae;have w3:av .i64 8=8:=wrap_i64 ae;have hp:(0:Int)<=(x2:Int):=ae;generalize oF=tb at*;simp[IntKind.bits,GR,hA',hB',w2,w3,f1,f2,f3,hp];simpa using f4
  ·have hB':¬ (256:Int)<=(x:Int):=ae;obtain⟨b,f1,f2,f3,f4⟩:=fin x 0 ae ae ae;have hp:(0:Int)<=(x:Int):=ae;generalize oF=tb at*;simp[GR,hA',hB',f1,f2,f3,hp];simpa[f3] using f4
theorem QZ (n x:Nat)(hx:x<4294967296):CL E0 (n+80) ad3 [.d (.v (.int .u32 x))] []=some (dI ((32-fH x:Nat):Int),none):=by
 have t:=fun m=>NF m x hx
 have hb:=zz hx;have w:av .i64 (32-(fH x:Int))=((32-fH x:Nat):Int):=by rw[wrap_i64 ae];omega
 rw[aB rfl (aN 287 f287:E0.fn _=_) rfl];generalize fH x=bl at*;generalize 32-bl=r at*;simp[f287,t,w]
theorem JR (n:Nat)(b:List Nat)(x:Nat)(hx:x<4294967296)(hl:b.length<=100000000) :
  CL E0 (n+120) WE [.d (LD (b++[x]))] []=some (dI ((32*b.length+fH x:Nat):Int),none):=by
 have t:=fun m=>QZ m x hx
 have hb:=zz hx;have hlen:(LL (b++[x])).length=b.length+1:=by simp[LL]
 have hget:(LL (b++[x]))[b.length]?=some (.v (.int .u32 (x:Int))):=by simp[LL]
 have hb0:(((b.length:Int)+1)==0)=false:=by simp;omega
 have w1:av .i64 (b.length:Int)=(b.length:Int):=wrap_i64 ae;have w2:av .i64 (32*((b.length:Int)+1))=32*((b.length:Int)+1):=wrap_i64 ae;have w3:av .i64 (32*((b.length:Int)+1)-((32-fH x:Nat):Int))=((32*b.length+fH x:Nat):Int):=by rw[wrap_i64 ae];omega
 rw[aB rfl (aN 266 f266:E0.fn _=_) rfl];generalize 32*b.length+fH x=res,32-fH x=r at*;simp only[LD];generalize LL (b++[x])=es at*;have zW:=idx hget;generalize b.length=m at*;simp[f266,hlen,zW,hb0,w1,w2,w3,t]
end Fi.S
