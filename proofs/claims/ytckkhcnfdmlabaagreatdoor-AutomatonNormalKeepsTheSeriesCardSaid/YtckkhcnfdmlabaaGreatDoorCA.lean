import Derived.Test.YtckkhcnfdmlabaaGreatDoorSEnv
import Derived.Test.YtckkhcnfdmlabaaGreatDoorFiG
set_option linter.unusedVariables false
set_option linter.unusedSimpArgs false
noncomputable section
namespace Fi.S
open Go Fi
set_option maxHeartbeats 8000000
attribute [simp] st0 VY ZM VZ V3 ZN V4 QZ NZ Q0 N_ ZO V5 ZP V6 ZQ ZR Q3 ac2 ZT ZU V7 Q4 Q5 Q6 Q7 Q8 Q9 Q_ ZV ZW V8 V9 ZX Ra ac3 ZY ZZ V_ Rb Re Rf Rh Oa Z0 Ri Wd We Z4 Wh dh Wi DZ Ob kY runK Ae nA FV.target dw fe fI dW D.cells FV.cells FV.one D.one sZ St.push St.heap St.a_ Af splice qA gQ ac4 ac5 ac6 ac7 ac8 afZ ac9 ac_ ac' ada adb ade adf adg adh adi unV iY ma kC finish ll Fg fJ leaves xn leave1 jL Rj Ag fK jS oneOf aJ FV.rows FV.mQ D.norm D.di scalar D.isV FV.shift FV.ja ae.shift kI tL elems aH.l aH.r aH.bl aH.lp
abbrev nAt:Nat:=225
abbrev fAt:ai:=f225
abbrev Z5:Nat:=231
abbrev J7:ai:=f231
abbrev Wj:Nat:=180
abbrev afC:ai:=f180
theorem jT (n:Nat)(l:List Nat)(hl:l.length<=1000000000)(i:Nat)(hi:i<=1000000000)(hb:∀ x ∈ l,x<4294967296) :
  CL E0 (n+30) nAt [.d (LD l),.d (.v (.int .i64 i))] []=some (.d (.v (.int .u64 (bE l i))),none):=by
 rw[ak rfl (k225:E0.fn _=_) rfl]
 by_cases h:i<l.length
 ·have h1:((i:Int)<(l.length:Int)):=by omega
  have hx:l[i]?=some l[i]:=List.getElem?_eq_getElem h;have hw:ah .u64 (l[i]:Int)=(l[i]:Int):=wrap_u64 (by have:=hb l[i] (List.getElem_mem h);omega);have ha:bE l i=l[i]:=by simp[bE,hx]
  simp -implicitDefEqProofs[f225,LD,LL,h1,hx,hw,ha]
 ·have h1:¬ ((i:Int)<(l.length:Int)):=by omega
  have ha:bE l i=0:=by simp[bE,List.getElem?_eq_none (Nat.le_of_not_lt h)]
  simp -implicitDefEqProofs[f225,LD,LL,h1,ha]
def VJ (l:List Nat):St:=(st0 [.d (LD l),.u,.u] [])
def Z6 (l:List Nat):Out × St:=(.exit 0,(st0 [.d (LD (trim l)),.u,.d (.v (.bool false))] []))
def Y4:aH:=match J7.body with
 | .seq _ (.seq (.block _ (.loop b)) _)=>b
 | _=>.skip
theorem Fh (n:Nat):EX E0 (n+40) Y4 (VJ [])=some (Z6 []):=by
 simp -implicitDefEqProofs[Y4,VJ,Z6,f231,LD,LL,trim]
theorem GU (n:Nat)(b:List Nat)(x:Nat)(hl:b.length<=1000000000) :
  EX E0 (n+40) Y4 (VJ (b++[x]))=if x=0 then some (.norm,VJ b) else some (Z6 (b++[x])):=by
 have hlen:(LL (b++[x])).length=b.length+1:=by simp[LL]
 have hget:(LL (b++[x]))[b.length]?=some (.v (.int .u32 (x:Int))):=by simp[LL]
 have htake:(LL (b++[x])).take b.length=LL b:=by simp[LL]
 have hpos:(0:Int)<(b.length:Int)+1:=by omega
 have hw:ah .i64 (b.length:Int)=(b.length:Int):=wrap_i64 (by omega)
 by_cases h:x=0
 ·subst h;unfold VJ LD;generalize LL (b++[0])=es at hlen hget htake;have Ah:=idx hget;have hh:((b.length:Int)<=(b.length:Int)+1):=by omega
  simp -implicitDefEqProofs[Y4,f231,hlen,hget,Ah,htake,hpos,hw,hh,jo,Du]
 ·have hx:((x:Int)==0)=false:=by simpa using h
  rw[if_neg h];unfold Z6;rw[rW b x h];unfold VJ LD;generalize LL (b++[x])=es at hlen hget htake;have Ah:=idx hget;simp -implicitDefEqProofs[Y4,f231,hlen,hget,Ah,hpos,hw,hx]
theorem J8 (l:List Nat)(hl:l.length<=1000000000):Ex E0 (.loop Y4) (VJ l) (Z6 l):=by
 have:=Ex.while (E:=E0) (b:=Y4) (fun a:{l:List Nat // l.length<=1000000000}=>VJ a.1) (fun a=>a.1.length) (fun a=>Z6 a.1) ?_ ⟨l,hl⟩
 ·exact this
 ·rintro⟨l,hl⟩;rcases List.eq_nil_or_concat l with rfl|⟨b,x,rfl⟩
  ·exact .inr ⟨Ex.of (Fh 0),by intro h;cases h⟩
  ·have hb:b.length<=1000000000:=by simp at hl;omega
   have hr:=GU 0 b x hb;rw[<-List.concat_eq_append]at hr
   by_cases h:x=0
   ·subst h;rw[if_pos rfl]at hr;refine .inl ⟨⟨b,hb⟩,Ex.of hr,by simp,?_⟩;simp only[Z6,List.concat_eq_append,rX]
   ·rw[if_neg h]at hr;exact .inr ⟨Ex.of hr,by intro h;cases h⟩
def clA:aH:=match J7.body with
 | .seq a _=>a
 | _=>.skip
def clC:aH:=match J7.body with
 | .seq _ (.seq _ c)=>c
 | _=>.skip
theorem gY (l:List Nat)(hl:l.length<=1000000000):Ca E0 Z5 [.d (LD l)] (.d (LD (trim l)),none):=by
 refine Ca.body (o:=.ret) (st1:=(st0 [.u,.d (LD (trim l)),.u] [])) rfl (k231:E0.fn _=_) rfl ?_ (by intro id h;cases h) ?_
 ·show Ex E0 (.seq clA (.seq (.block 0 (.loop Y4)) clC)) _ _;refine Ex.seq (st1:=VJ l) (Ex.of (n:=40) ?_) (Ex.seq ((J8 l hl).block) (Ex.of (n:=40) ?_))
  ·simp -implicitDefEqProofs[clA,VJ,f231]
  ·simp -implicitDefEqProofs[clC,f231]
 ·simp -implicitDefEqProofs[f231,LD]
abbrev Z7:Nat:=181
abbrev Wl:ai:=f181
def Fj (a b:List Nat):Nat->Int
 | 0=>0
 | k+1=>if bE a k=bE b k then Fj a b k else if bE a k<bE b k then -1 else 1
def Y5 (a b:List Nat)(i:Int):St:=(st0 [.d (LD a),.d (LD b),.u,.d (.v (.int .i64 i)),.u,.u,.u,.u] [])
def Rk (a b:List Nat):Nat->Out × St
 | 0=>(.exit 0,(st0 [.d (LD a),.d (LD b),.u,.d (.v (.int .i64 (-1))),.u,.u,.d (.v (.bool false)),.u] []))
 | k+1=>if bE a k=bE b k then Rk a b k else(.ret,(st0 [.u,.u,.d (.v (.int .i64 (if bE a k<bE b k then -1 else 1))),.u,.u,.u,.u,.u] []))
def Wm:aH:=match Wl.body with
 | .seq _ (.seq (.seq _ (.block _ (.loop b))) _)=>b
 | _=>.skip
def cmA:aH:=match Wl.body with
 | .seq a _=>a
 | _=>.skip
def Wn:aH:=match Wl.body with
 | .seq _ (.seq (.seq a (.block _ (.loop _))) _)=>a
 | _=>.skip
def cmC:aH:=match Wl.body with
 | .seq _ (.seq (.seq _ (.block _ (.loop _))) c)=>c
 | _=>.skip
theorem cZ {l:List Nat}(h:bT l)(i:Nat):bE l i<4294967296:=by
 unfold bE;cases hx:l[i]? with
 | none=>simp
 | some x=>exact h x (List.mem_of_getElem? hx)
theorem J9 (n:Nat)(a b:List Nat):EX E0 (n+60) Wm (Y5 a b (-1))=some (Rk a b 0):=by
 simp -implicitDefEqProofs[Wm,Y5,Rk,f181]
theorem Oc (n:Nat)(a b:List Nat)(k:Nat)(hk:k<=1000000000)(la:a.length<=1000000000)(lb:b.length<=1000000000)(ha:bT a)(hb:bT b) :
  EX E0 (n+60) Wm (Y5 a b k)=if bE a k=bE b k then some (.norm,Y5 a b ((k:Int)-1)) else some (Rk a b (k+1)):=by
 have h1:=fun m=>jT m a la k hk ha
 have h2:=fun m=>jT m b lb k hk hb
 have xa:=cZ ha k;have xb:=cZ hb k;have hdec:ah .i64 ((k:Int)-1)=(k:Int)-1:=wrap_i64 (by omega);have hk0:(0:Int)<=(k:Int):=by omega
 unfold Rk Y5;simp only[LD]at h1 h2 ⊢;generalize bE a k=x,bE b k=y at*
 by_cases hxy:x=y
 ·subst hxy;simp -implicitDefEqProofs[Wm,f181,h1,h2,hdec,hk0]
 ·have hne:((x:Int) != (y:Int))=true:=by simp;omega
  rw[if_neg hxy,if_neg hxy]
  by_cases hlt:x<y
  ·have hs:ah .u64 ((x:Int)-(y:Int))=18446744073709551616+(x:Int)-(y:Int):=by rw[fM];omega
   have hd:Int.fdiv (18446744073709551616+(x:Int)-(y:Int)) 9223372036854775808=1:=by rw[Int.fdiv_eq_ediv_of_nonneg _ (by omega)];omega
   have w1:ah .i64 1=1:=wrap_i64 (by omega);have w2:ah .i64 2=2:=wrap_i64 (by omega);have w3:ah .i64 (-1)=-1:=wrap_i64 (by omega);simp -implicitDefEqProofs[IntKind.bits,Wm,f181,h1,h2,hk0,hne,hs,hd,hlt,w1,w2,w3]
  ·have hs:ah .u64 ((x:Int)-(y:Int))=(x:Int)-(y:Int):=wrap_u64 (by omega);have hd:Int.fdiv ((x:Int)-(y:Int)) 9223372036854775808=0:=by rw[Int.fdiv_eq_ediv_of_nonneg _ (by omega)];omega
   have w1:ah .i64 1=1:=wrap_i64 (by omega);have w0:ah .i64 0=0:=wrap_i64 (by omega);simp -implicitDefEqProofs[IntKind.bits,Wm,f181,h1,h2,hk0,hne,hs,hd,hlt,w1,w0]
theorem xw (a b:List Nat):∀ k,(Rk a b k=(.exit 0,(st0 [.d (LD a),.d (LD b),.u,.d (.v (.int .i64 (-1))),.u,.u,.d (.v (.bool false)),.u] []))/\Fj a b k=0) \/
  Rk a b k=(.ret,(st0 [.u,.u,.d (.v (.int .i64 (Fj a b k))),.u,.u,.u,.u,.u] []))
 | 0=>.inl ⟨rfl,rfl⟩
 | k+1=>by
  unfold Rk Fj
  by_cases h:bE a k=bE b k
  ·rw[if_pos h,if_pos h];exact xw a b k
  ·rw[if_neg h,if_neg h];exact .inr rfl
theorem Z8 (a b:List Nat)(k:Nat):(Rk a b k).1≠.norm:=by
 rcases xw a b k with ⟨h,_⟩|h<;>rw[h]<;>intro h<;>cases h
theorem GV (a b:List Nat)(la:a.length<=1000000000)(lb:b.length<=1000000000)(ha:bT a)(hb:bT b):∀ (k:Nat),k<=1000000001->Ex E0 (.loop Wm) (Y5 a b ((k:Int)-1)) (Rk a b k)
 | 0,_=>Ex.out (Ex.of (n:=60) (J9 0 a b)) (by intro h;cases h)
 | k+1,hk=>by
  have hr:=Oc 0 a b k (by omega) la lb ha hb;rw[show(((k+1:Nat):Int)-1)=(k:Int) by omega]
  by_cases h:bE a k=bE b k
  ·rw[if_pos h]at hr;have:=GV a b la lb ha hb k (by omega);unfold Rk;rw[if_pos h];exact Ex.next (Ex.of hr) this
  ·rw[if_neg h]at hr;exact Ex.leave (Ex.of hr) (Z8 a b (k+1))
theorem Wo (a b:List Nat)(la:a.length<=1000000000)(lb:b.length<=1000000000)(ha:bT a)(hb:bT b) :
  Ca E0 Z7 [.d (LD a),.d (LD b)] (.d (.v (.int .i64 (Fj a b (max a.length b.length)))),none):=by
 have hl:=GV a b la lb ha hb (max a.length b.length) (by omega);have hA:Ex E0 cmA (st0 [.d (LD a),.d (LD b),.u,.u,.u,.u,.u,.u] []) (.norm,(st0 [.d (LD a),.d (LD b),.u,.u,.u,.u,.u,.u] [])) :=
  Ex.of (n:=40) (by simp -implicitDefEqProofs[cmA,f181])
 have hmax:(if a.length<b.length then(b.length:Int) else(a.length:Int))=((max a.length b.length:Nat):Int):=by split<;>omega
 have hw:ah .i64 (((max a.length b.length:Nat):Int)-1)=((max a.length b.length:Nat):Int)-1:=wrap_i64 (by omega);have uk:(LL a).length=a.length:=by simp[LL]
 have Dq:(LL b).length=b.length:=by simp[LL]
 have hA2:Ex E0 Wn (st0 [.d (LD a),.d (LD b),.u,.u,.u,.u,.u,.u] []) (.norm,Y5 a b (((max a.length b.length:Nat):Int)-1)):=by
  refine Ex.of (n:=40) ?_;unfold Y5 LD;generalize max a.length b.length=mm at*;simp -implicitDefEqProofs[Wn,f181,uk,Dq,hmax,hw]
 rcases xw a b (max a.length b.length) with ⟨h,h0⟩|h
 ·rw[h]at hl;rw[h0];refine Ca.body (o:=.ret) (st1:=(st0 [.u,.u,.d (.v (.int .i64 0)),.u,.u,.u,.u,.u] [])) rfl (k181:E0.fn _=_) rfl ?_ (by intro id h;cases h) ?_
  ·show Ex E0 (.seq cmA (.seq (.seq Wn (.block 0 (.loop Wm))) cmC)) _ _;refine hA.seq ((hA2.seq hl.block).seq (Ex.of (n:=40) ?_));simp -implicitDefEqProofs[cmC,f181]
  ·simp -implicitDefEqProofs[f181]
 ·rw[h]at hl;refine Ca.body (o:=.ret) (st1:=(st0 [.u,.u,.d (.v (.int .i64 (Fj a b (max a.length b.length)))),.u,.u,.u,.u,.u] [])) rfl (k181:E0.fn _=_) rfl ?_ (by intro id h;cases h) ?_
  ·show Ex E0 (.seq cmA (.seq (.seq Wn (.block 0 (.loop Wm))) cmC)) _ _;refine hA.seq (Ex.dI (hA2.seq hl.cO))
  ·simp -implicitDefEqProofs[f181]
def dL (x y:Nat):Int:=if x<y then -1 else if x=y then 0 else 1
theorem GX {a b:List Nat}(ha:bT a)(hb:bT b):∀ k,Fj a b k=dL (bW a k) (bW b k)
 | 0=>by simp[Fj,dL,bW,val]
 | k+1=>by
  rw[Fj,GX ha hb k,dX,dX];have h1:=nL ha k;have h2:=nL hb k;unfold dL
  by_cases h:bE a k=bE b k
  ·rw[if_pos h,h];generalize 4294967296 ^ k*bE b k=p
   by_cases h3:bW a k<bW b k
   ·rw[if_pos h3,if_pos (by omega)]
   ·by_cases h4:bW a k=bW b k
    ·rw[if_neg h3,if_pos h4,if_neg (by omega),if_pos (by omega)]
    ·rw[if_neg h3,if_neg h4,if_neg (by omega),if_neg (by omega)]
  ·rw[if_neg h]
   by_cases h3:bE a k<bE b k
   ·have:=jq (vb:=bW b k) h1 h3;rw[if_pos h3];generalize 4294967296 ^ k*bE a k=p,4294967296 ^ k*bE b k=q at*;rw[if_pos this]
   ·have:=jq (vb:=bW a k) h2 (show bE b k<bE a k by omega);rw[if_neg h3];generalize 4294967296 ^ k*bE a k=p,4294967296 ^ k*bE b k=q at*;rw[if_neg (by omega),if_neg (by omega)]
theorem xx (a b:List Nat)(la:a.length<=1000000000)(lb:b.length<=1000000000)(ha:bT a)(hb:bT b) :
  Ca E0 Z7 [.d (LD a),.d (LD b)] (.d (.v (.int .i64 (dL (val a) (val b)))),none):=by
 have h:=Wo a b la lb ha hb;rw[GX ha hb,fo (by omega),fo (by omega)]at h;exact h
abbrev Y6:Nat:=228
abbrev D5:ai:=f228
def Wp:aH:=match D5.body with
 | .seq _ (.seq _ (.seq _ (.seq (.seq _ (.block _ (.loop b))) _)))=>b
 | _=>.skip
def adj:aH:=match D5.body with
 | .seq a _=>a
 | _=>.skip
def adk:aH:=match D5.body with
 | .seq _ (.seq a _)=>a
 | _=>.skip
def adl:aH:=match D5.body with
 | .seq _ (.seq _ (.seq a _))=>a
 | _=>.skip
def adm:aH:=match D5.body with
 | .seq _ (.seq _ (.seq _ (.seq (.seq a (.block _ (.loop _))) _)))=>a
 | _=>.skip
def plC:aH:=match D5.body with
 | .seq _ (.seq _ (.seq _ (.seq (.seq _ (.block _ (.loop _))) c)))=>c
 | _=>.skip
def dP (k:Nat):FV:=if k=0 then .d (.n 1) else .ls (.loc 0) (k-1) 1 0 k
def dQ (k:Nat)(o:List D):List ae:=if k=0 then [] else [.row (k-1) 1 o]
def VK (a b o:List Nat)(k s:Nat)(t:FV):St:=(st0 [.d (LD a),.d (LD b),.u,dP k,.d (.v (.int .u64 s)),.d (.v (.int .i64 k)),t] (dQ k (LL o)))
theorem J_ (n:Nat)(a b o:List Nat)(k s:Nat)(hk:k<=1000000000)(la:a.length<=1000000000)(lb:b.length<=1000000000)(ha:bT a)(hb:bT b)(ho:o.length=k)(hs:s<4294967296) :
  EX E0 (n+60) Wp (VK a b o k s .u)=if k<max a.length b.length\/0<s then some (.norm,VK a b (o++[(s+(bE a k+bE b k)) % 4294967296]) (k+1) ((s+(bE a k+bE b k)) / 4294967296) .u)
   else some (.exit 0,VK a b o k s (.d (.v (.bool false)))):=by
 have h1:=fun m=>jT m a la k hk ha
 have h2:=fun m=>jT m b lb k hk hb
 have xa:=cZ ha k;have xb:=cZ hb k;have uk:(LL a).length=a.length:=by simp[LL]
 have Dq:(LL b).length=b.length:=by simp[LL]
 have hmax:(if a.length<b.length then(b.length:Int) else(a.length:Int))=((max a.length b.length:Nat):Int):=by split<;>omega
 simp only[LD]at h1 h2;have bD:ah .i64 ((k:Int)+1)=(k:Int)+1:=wrap_i64 (by omega);generalize bE a k=x,bE b k=y at*;have w1:ah .u64 ((x:Int)+(y:Int))=(x:Int)+(y:Int):=wrap_u64 (by omega);have w2:ah .u64 ((s:Int)+((x:Int)+(y:Int)))=(s:Int)+((x:Int)+(y:Int)):=wrap_u64 (by omega);have w3:ah .u32 ((s:Int)+((x:Int)+(y:Int)))=((s:Int)+((x:Int)+(y:Int))) % 4294967296:=dD _;have w4:Int.fdiv ((s:Int)+((x:Int)+(y:Int))) 4294967296=((s:Int)+((x:Int)+(y:Int))) / 4294967296:=Int.fdiv_eq_ediv_of_nonneg _ (by omega);have QN:LL (o++[(s+(x+y)) % 4294967296])=LL o++[.v (.int .u32 (((s:Int)+((x:Int)+(y:Int))) % 4294967296))]:=by simp[LL]
 have hol:(LL o).length=k:=by simp[LL,ho]
 have hv1:dP (k+1)=.ls (.loc 0) k 1 0 (k+1):=by simp[dP]
 have Dv:∀ l,dQ (k+1) l=[.row k 1 l]:=by intro l;simp[dQ]
 have hm1:(k+1)*4<=most:=by simp[most];omega
 have hm2:k+1<=most:=by simp[most];omega
 have htk:(LL o).take k=LL o:=List.take_of_length_le (by omega);have hk1:((k+1:Nat):Int)=(k:Int)+1:=by omega
 have hs1:(((s+(x+y)) / 4294967296:Nat):Int)=((s:Int)+((x:Int)+(y:Int))) / 4294967296:=by omega
 unfold VK;rw[QN,hv1,Dv,hk1,hs1]
 by_cases hk0:k=0
 ·have hv:dP k=.d (.n 1):=by simp[dP,hk0]
  have hh:∀ l,dQ k l=[]:=by intro l;simp[dQ,hk0]
  have ho0:o=[]:=List.eq_nil_of_length_eq_zero (by omega);have hLo:LL o=[]:=by rw[ho0];rfl
  have hm3:1*4<=most:=by simp[most]
  have hm4:1<=most:=by simp[most]
  have hvk:FV.ls (.loc 0) 0 1 0 1=FV.ls (.loc 0) k 1 0 (k+1):=by rw[hk0]
  have hhk:∀ l,ae.row 0 1 l=ae.row k 1 l:=by intro l;rw[hk0]
  rw[hv,hh,hLo,<-hvk,<-hhk];generalize max a.length b.length=mm at*
  by_cases hc:k<mm
  ·rw[if_pos (.inl hc)];simp -implicitDefEqProofs[IntKind.bits,Wp,f228,LD,uk,Dq,hmax,hc,h1,h2,bD,w1,w2,w3,w4,hm4,most]
  ·by_cases hs0:0<s
   ·rw[if_pos (.inr hs0)];simp -implicitDefEqProofs[IntKind.bits,Wp,f228,LD,uk,Dq,hmax,hc,hs0,h1,h2,bD,w1,w2,w3,w4,hm4,most]
   ·rw[if_neg (by omega)];simp -implicitDefEqProofs[IntKind.bits,Wp,f228,LD,uk,Dq,hmax,hc,hs0]
 ·have hv:dP k=.ls (.loc 0) (k-1) 1 0 k:=by simp[dP,hk0]
  have hh:∀ l,dQ k l=[.row (k-1) 1 l]:=by intro l;simp[dQ,hk0]
  have hk2:k-1+1=k:=by omega
  rw[hv,hh];generalize max a.length b.length=mm at*
  by_cases hc:k<mm
  ·rw[if_pos (.inl hc)];simp -implicitDefEqProofs[IntKind.bits,Wp,f228,LD,uk,Dq,hmax,hc,h1,h2,bD,w1,w2,w3,w4,hm1,hm2,hol,htk,hk2]
  ·by_cases hs0:0<s
   ·rw[if_pos (.inr hs0)];simp -implicitDefEqProofs[IntKind.bits,Wp,f228,LD,uk,Dq,hmax,hc,hs0,h1,h2,bD,w1,w2,w3,w4,hm1,hm2,hol,htk,hk2]
   ·rw[if_neg (by omega)];simp -implicitDefEqProofs[IntKind.bits,Wp,f228,LD,uk,Dq,hmax,hc,hs0]
def plI (a b:List Nat)(t:List Nat × Nat × Nat):Prop :=
 t.1.length=t.2.1/\t.2.1<=max a.length b.length+1/\(t.2.1=max a.length b.length+1->t.2.2=0)/\t.2.2<4294967296/\bT t.1 /\
 val t.1+4294967296 ^ t.2.1*(t.2.2+val (a.drop t.2.1)+val (b.drop t.2.1))=val a+val b
theorem D6 {P s x y va vb vo d c:Nat}(h:s+(x+y)=d+4294967296*c) :
  vo+P*d+P*4294967296*(c+va+vb)=vo+P*(s+(x+4294967296*va)+(y+4294967296*vb)):=by grind
theorem Od (a b:List Nat)(la:a.length<=100000000)(lb:b.length<=100000000)(ha:bT a)(hb:bT b) :
  ∃ r,Ex E0 (.loop Wp) (VK a b [] 0 0 .u) r/\∃ o,bT o/\val o=val a+val b/\o.length<=max a.length b.length+1/\r=(.exit 0,VK a b o o.length 0 (.d (.v (.bool false)))):=by
 refine Ex.inv (S:=fun t:List Nat × Nat × Nat=>VK a b t.1 t.2.1 t.2.2 .u) (fun t=>max a.length b.length+2-t.2.1) (plI a b) _ ?_ ([],0,0) ?_
 ·rintro⟨o,k,s⟩ ⟨h1,h2,h3,h4,h5,h6⟩;simp only at h1 h2 h3 h4 h5 h6;have hr:=J_ 0 a b o k s (by omega) (by omega) (by omega) ha hb h1 h4;have xa:=cZ ha k;have xb:=cZ hb k
  by_cases hc:k<max a.length b.length\/0<s
  ·rw[if_pos hc]at hr;have hk:k<max a.length b.length+1:=by
    rcases hc with hc|hc
    ·omega
    ·rcases Nat.lt_or_ge k (max a.length b.length+1) with h|h
     ·exact h
     ·have:=h3 (by omega);omega
   refine .inl ⟨(o++[(s+(bE a k+bE b k)) % 4294967296],k+1,(s+(bE a k+bE b k)) / 4294967296),Ex.of hr,by simp only;omega,?_,?_,?_,?_,?_,?_⟩
   ·simp[h1]
   ·simp only;omega
   ·intro he;simp only at he ⊢;have e1:bE a k=0:=by unfold bE;rw[List.getElem?_eq_none (by omega)];rfl
    have e2:bE b k=0:=by unfold bE;rw[List.getElem?_eq_none (by omega)];rfl
    rw[e1,e2];omega
   ·simp only;omega
   ·exact gZ h5 (fun x hx=>by simp at hx;subst hx;exact Nat.mod_lt _ (by omega))
   ·simp only;rw[val_append,h1,Nat.pow_succ,<-h6,iQ a k,iQ b k];have hv:val [(s+(bE a k+bE b k)) % 4294967296]=(s+(bE a k+bE b k)) % 4294967296:=by simp[val]
    rw[hv];exact D6 (by omega)
  ·rw[if_neg hc]at hr;refine .inr ⟨_,Ex.of hr,(by simp),o,h5,?_,by omega,?_⟩
   ·rw[g_ (by omega),g_ (by omega)]at h6;have:s=0:=by omega
    subst this;simpa using h6
   ·have:s=0:=by omega
    subst this;rw[h1]
 ·refine⟨rfl,by simp,?_,by simp,?_,?_⟩
  ·simp
  ·intro x hx;cases hx
  ·simp[val]
theorem Wq (a b:List Nat)(la:a.length<=100000000)(lb:b.length<=100000000)(ha:bT a)(hb:bT b) :
  Ca E0 Y6 [.d (LD a),.d (LD b)] (.d (LD (enc (val a+val b))),none):=by
 obtain⟨r,hl,o,ho,hv,hol,rfl⟩:=Od a b la lb ha hb;obtain⟨n0,hc⟩:=(gY o (by omega)).get;rw[cB ho,hv]at hc;have hlo:(LL o).length=o.length:=by simp[LL]
 generalize enc (val a+val b)=res at*;refine Ca.body (o:=.ret) (st1:=(st0 [.u,.u,.d (LD res),.u,.u,.u,.u] (if o.length=0 then [] else [.gG (o.length-1) 1 (LL o)]))) rfl (k228:E0.fn _=_) rfl ?_ (by intro id h;cases h) ?_
 ·show Ex E0 (.seq adj (.seq adk (.seq adl (.seq (.seq adm (.block 0 (.loop Wp))) plC)))) _ _;refine Ex.seq (st1:=(st0 [.d (LD a),.d (LD b),.u,.u,.u,.u,.u] [])) (Ex.of (n:=40) ?_)
   (Ex.seq (st1:=(st0 [.d (LD a),.d (LD b),.u,.d (.n 1),.u,.u,.u] [])) (Ex.of (n:=40) ?_)
   (Ex.seq (st1:=(st0 [.d (LD a),.d (LD b),.u,.d (.n 1),.d (.v (.int .u64 0)),.u,.u] [])) (Ex.of (n:=40) ?_)
   (Ex.seq (Ex.seq (st1:=VK a b [] 0 0 .u) (Ex.of (n:=40) ?_) hl.block) (Ex.of (n:=n0+40) ?_))))
  ·simp -implicitDefEqProofs[adj,f228]
  ·simp -implicitDefEqProofs[adk,f228]
  ·simp -implicitDefEqProofs[adl,f228]
  ·simp -implicitDefEqProofs[adm,VK,dP,dQ,f228]
  ·unfold VK;simp only[LD]at hc ⊢
   by_cases hk0:o.length=0
   ·have hLo:LL o=[]:=List.eq_nil_of_length_eq_zero (by omega);have hv1:dP o.length=.d (.n 1):=by simp[dP,hk0]
    have Dv:∀ l,dQ o.length l=[]:=by intro l;simp[dQ,hk0]
    rw[if_pos hk0,hv1,Dv];rw[hLo]at hc;clear hl;simp -implicitDefEqProofs[plC,f228,hc]
   ·have htk:(LL o).take o.length=LL o:=List.take_of_length_le (by omega);have hv1:dP o.length=.ls (.loc 0) (o.length-1) 1 0 o.length:=by simp[dP,hk0]
    have Dv:∀ l,dQ o.length l=[.row (o.length-1) 1 l]:=by intro l;simp[dQ,hk0]
    rw[if_neg hk0,hv1,Dv];clear hl;generalize LL o=es,o.length=k at*;simp -implicitDefEqProofs[ae.view,plC,f228,hlo,htk,hc]
 ·simp -implicitDefEqProofs[f228,LD]
abbrev Rl:Nat:=229
abbrev xz:ai:=f229
def miB:aH:=xz.body.r.r.r.l.r.bl.lp
def Rm (a b:List Nat)(es:List D)(n k s:Nat)(t:FV):St:=(st0 [.d (LD a),.d (LD b),.u,.ls (.loc 0) 0 1 0 n,.d (.v (.int .u64 s)),.u,.u,.d (.v (.int .i64 n)),.d (.v (.int .i64 k)),t] [.row 0 1 es])
theorem Oe (n:Nat)(a b:List Nat)(es:List D)(k s:Nat):EX E0 (n+60) miB (Rm a b es k k s .u)=some (.exit 0,Rm a b es k k s (.d (.v (.bool false)))):=by
 unfold Rm;simp -implicitDefEqProofs[miB,f229]
theorem GY (n:Nat)(a b:List Nat)(es:List D)(l k s s' d:Nat)(hk:k<l)(hl:l<=1000000000)(la:a.length<=1000000000)(lb:b.length<=1000000000)(ha:bT a)(hb:bT b)(hs:s<=1)(he:es.length=l)
  (hz:es[k]?=some (.v (.int .u32 0))) (hd:d<4294967296) (hs':s'<=1) (hdig:bE a k+4294967296*s'=d+bE b k+s) :
  EX E0 (n+60) miB (Rm a b es l k s .u)=some (.norm,Rm a b (es.set k (.v (.int .u32 (d:Int)))) l (k+1) s' .u):=by
 have h1:=fun m=>jT m a la k (by omega) ha
 have h2:=fun m=>jT m b lb k (by omega) hb
 have xa:=cZ ha k;have xb:=cZ hb k;simp only[LD]at h1 h2;have bD:ah .i64 ((k:Int)+1)=(k:Int)+1:=wrap_i64 (by omega);generalize bE a k=x,bE b k=y at*;have hk':(k:Int)<(l:Int):=by omega
 have hk1:((k+1:Nat):Int)=(k:Int)+1:=by omega
 have w1:ah .u64 (ah .u64 ((x:Int)-(y:Int))-(s:Int))=((x:Int)-(y:Int)-(s:Int)) % 18446744073709551616:=by rw[fM,fM];omega
 have w3:ah .u32 (((x:Int)-(y:Int)-(s:Int)) % 18446744073709551616)=(d:Int):=by rw[dD];omega
 have w4:Int.fdiv (((x:Int)-(y:Int)-(s:Int)) % 18446744073709551616) 9223372036854775808=(s':Int):=by rw[Int.fdiv_eq_ediv_of_nonneg _ (by omega)];omega
 have hz2:=idx hz;unfold Rm;rw[hk1];simp -implicitDefEqProofs[IntKind.bits,miB,f229,LD,hk',h1,h2,bD,w1,w3,w4,hz,hz2]
def miI (a b:List Nat)(t:List Nat × Nat):Prop :=
 t.1.length<=a.length/\t.2<=1/\bT t.1/\bW a t.1.length+4294967296 ^ t.1.length*t.2=val t.1+bW b t.1.length
theorem Ai {P x y va vb vo s d s':Nat}(h:va+P*s=vo+vb)(hd:x+4294967296*s'=d+y+s):va+P*x+P*4294967296*s'=vo+P*d+(vb+P*y):=by
 have:P*x+P*4294967296*s'=P*d+P*y+P*s:=by
  rw[Nat.mul_assoc,<-Nat.mul_add,<-Nat.mul_add,<-Nat.mul_add,hd]
 omega
theorem Ka (a b:List Nat)(la:a.length<=1000000000)(lb:b.length<=a.length)(ha:bT a)(hb:bT b)(hab:val b<=val a) :
  ∃ r,Ex E0 (.loop miB) (Rm a b (LL (row0 [] a.length)) a.length 0 0 .u) r/\∃ o,bT o/\val o=val a-val b/\o.length=a.length/\r=(.exit 0,Rm a b (LL o) a.length a.length 0 (.d (.v (.bool false)))):=by
 refine Ex.inv (S:=fun t:List Nat × Nat=>Rm a b (LL (row0 t.1 (a.length-t.1.length))) a.length t.1.length t.2 .u) (fun t=>a.length-t.1.length) (miI a b) _ ?_ ([],0) ?_
 ·rintro⟨o,s⟩ ⟨h1,h2,h3,h4⟩;simp only at h1 h2 h3 h4;have xa:=cZ ha o.length;have xb:=cZ hb o.length
  by_cases hk:o.length<a.length
  ·obtain⟨m,hm⟩:∃ m,a.length-o.length=m+1:=⟨a.length-o.length-1,by omega⟩
   obtain⟨d,s',hd,hs',hdig⟩:∃ d s',d<4294967296/\s'<=1/\bE a o.length+4294967296*s'=d+bE b o.length+s:=by
    by_cases hc:bE b o.length+s<=bE a o.length
    ·exact⟨bE a o.length-(bE b o.length+s),0,by omega,by omega,by omega⟩
    ·exact⟨bE a o.length+4294967296-(bE b o.length+s),1,by omega,by omega,by omega⟩
   have hr:=GY 0 a b (LL (row0 o (m+1))) a.length o.length s s' d hk la la (by omega) ha hb h2 (by rw[qB];omega) (MN o m) hd hs' hdig;rw[GZ]at hr;refine .inl ⟨(o++[d],s'),?_,?_,?_,?_,?_,?_⟩
   ·simp only[hm,List.length_append,List.length_cons,List.length_nil];rw[show a.length-(o.length+(0+1))=m by omega];exact Ex.of hr
   ·simp only[List.length_append,List.length_cons,List.length_nil];omega
   ·simp only[List.length_append,List.length_cons,List.length_nil];omega
   ·exact hs'
   ·exact gZ h3 (fun x hx=>by simp at hx;subst hx;exact hd)
   ·simp only[List.length_append,List.length_cons,List.length_nil,Nat.zero_add];rw[dX,dX,val_append,Nat.pow_succ];have hv:val [d]=d:=by simp[val]
    rw[hv];exact Ai h4 hdig
  ·have he:o.length=a.length:=by omega
   rw[he,fo (Nat.le_refl _),fo lb]at h4;have hlt:=nC h3;rw[he]at hlt;have hs0:s=0:=by
    rcases Nat.lt_or_ge s 1 with h|h
    ·omega
    ·have:s=1:=by omega
     subst this;generalize 4294967296 ^ a.length=p at*;omega
   subst hs0;refine .inr ⟨_,?_,?_,o,h3,by omega,he,rfl⟩
   ·simp only[he,Nat.sub_self,D7];exact Ex.of (Oe 0 a b (LL o) a.length 0)
   ·simp
 ·refine⟨by simp,by simp,?_,?_⟩
  ·intro x hx;cases hx
  ·simp[val,bW]
theorem Aj (a b:List Nat)(la:a.length<=1000000000)(lb:b.length<=a.length)(ha:bT a)(hb:bT b)(hab:val b<=val a) :
  Ca E0 Rl [.d (LD a),.d (LD b)] (.d (LD (enc (val a-val b))),none):=by
 obtain⟨r,hl,o,ho,hv,hol,rfl⟩:=Ka a b la lb ha hb hab;obtain⟨n0,hc⟩:=(gY o (by omega)).get;rw[cB ho,hv]at hc;have hlo:(LL o).length=a.length:=by simp[LL,hol]
 have hla:(LL a).length=a.length:=by simp[LL]
 have htk:(LL o).take a.length=LL o:=List.take_of_length_le (by omega);have hz:=ve a.length;generalize enc (val a-val b)=res at*;refine Ca.body (o:=.ret) (st1:=(st0 [.u,.u,.d (LD res),.u,.u,.u,.u,.u,.u,.u] [.gG 0 1 (LL o)])) rfl (k229:E0.fn _=_) rfl ?_ (by intro id h;cases h) ?_
 ·show Ex E0 (.seq xz.body.l (.seq xz.body.r.l (.seq xz.body.r.r.l (.seq (.seq xz.body.r.r.r.l.l (.block 0 (.loop miB))) xz.body.r.r.r.r)))) _ _;refine Ex.seq (st1:=(st0 [.d (LD a),.d (LD b),.u,.u,.u,.u,.u,.u,.u,.u] [])) (Ex.of (n:=40) ?_)
   (Ex.seq (st1:=(st0 [.d (LD a),.d (LD b),.u,.ls (.loc 0) 0 1 0 a.length,.u,.u,.u,.u,.u,.u] [.row 0 1 (LL (row0 [] a.length))])) (Ex.of (n:=40) ?_)
   (Ex.seq (st1:=(st0 [.d (LD a),.d (LD b),.u,.ls (.loc 0) 0 1 0 a.length,.d (.v (.int .u64 0)),.u,.u,.u,.u,.u] [.row 0 1 (LL (row0 [] a.length))])) (Ex.of (n:=40) ?_)
   (Ex.seq (Ex.seq (Ex.of (n:=40) ?_) hl.block) (Ex.of (n:=n0+40) ?_))))
  ·simp -implicitDefEqProofs[f229]
  ·have hm1:(a.length:Int)*4<=1099511627776:=by omega
   have hm2:(a.length:Int)<=1099511627776:=by omega
   rw[hz];simp -implicitDefEqProofs[f229,LD,hla,hm1,hm2,most]
  ·simp -implicitDefEqProofs[f229]
  ·unfold Rm;simp -implicitDefEqProofs[f229,LD,hla]
  ·unfold Rm;simp only[LD]at hc ⊢;clear hl;generalize LL o=es at*;simp -implicitDefEqProofs[ae.view,f229,hlo,htk,hc]
 ·simp -implicitDefEqProofs[f229,LD]
abbrev Z9:Nat:=233
abbrev Ak:ai:=f233
theorem Rn {r:Nat}(hr:r<4294967296):Kb .u64 (r:Int) 32=(r:Int)*4294967296:=by
 rw[zJ,<-b_];have h:(2:Int) ^ (min (Int.toNat 32) (IntKind.bits .u64))=4294967296:=by rfl
 rw[h,wrap_u64 (by omega)]
theorem Al {r x:Nat}(hr:r<4294967296)(hx:x<4294967296) :
  Am .u64 ((r:Int)*4294967296) (x:Int)=(r:Int)*4294967296+(x:Int):=by
 rw[xA,<-b_]
 change ah .u64 ((BitVec.ofInt 64 ((r:Int)*4294967296) ||| BitVec.ofInt 64 (x:Int)).toNat:Int)=_
 rw[BitVec.ofInt_natCast];have hs:r <<< 32=r*4294967296:=by rw[Nat.shiftLeft_eq]
 have h0:((r:Int)*(4294967296:Int))=((r <<< 32:Nat):Int):=by rw[hs];omega
 have e1:BitVec.ofInt 64 ((r:Int)*(4294967296:Int))=BitVec.ofNat 64 (r <<< 32):=by
  rw[h0,BitVec.ofInt_natCast]
 have l1:r <<< 32<2 ^ 64:=by rw[hs];omega
 have l2:x<2 ^ 64:=by omega
 have l3:x<2 ^ 32:=by omega
 rw[e1,BitVec.toNat_or,BitVec.toNat_ofNat,BitVec.toNat_ofNat,Nat.mod_eq_of_lt l1,Nat.mod_eq_of_lt l2,<-Nat.shiftLeft_add_eq_or_of_lt l3,hs];rw[wrap_u64 (by omega)];omega
theorem yG {r d x B:Nat}(hr:r<d)(hx:x<B):(r*B+x) / d<B:=by
 rw[Nat.div_lt_iff_lt_mul (by omega)];have h1:=Nat.mul_le_mul_right B hr;rw[Nat.succ_mul]at h1;rw[Nat.mul_comm B d];omega
def smB:aH:=Ak.body.r.r.l.r.bl.lp
def Ro (a:List Nat)(es:List D)(d n:Nat)(k:Int)(r:Nat)(t:FV):St:=(st0 [.d (LD a),.d (.v (.int .u32 d)),.u,.u,.ls (.loc 0) 0 1 0 n,.d (.v (.int .u64 r)),.d (.v (.int .i64 k)),t] [.row 0 1 es])
theorem Og (n:Nat)(a:List Nat)(es:List D)(d l r:Nat):EX E0 (n+60) smB (Ro a es d l (-1) r .u)=some (.exit 0,Ro a es d l (-1) r (.d (.v (.bool false)))):=by
 unfold Ro;simp -implicitDefEqProofs[smB,f233]
theorem G5 (n:Nat)(a:List Nat)(es:List D)(l d k r x:Nat)(hk:k<l)(hl:l<=1000000000)(hx:a[k]?=some x)(hx32:x<4294967296)(hd:d<4294967296)(hr:r<d)(he:es.length=l)
  (hz:es[k]?=some (.v (.int .u32 0))) :
  EX E0 (n+60) smB (Ro a es d l k r .u)=some (.norm,Ro a (es.set k (.v (.int .u32 (((r*4294967296+x) / d:Nat):Int)))) d l ((k:Int)-1) ((r*4294967296+x) % d) .u):=by
 have hdec:ah .i64 ((k:Int)-1)=(k:Int)-1:=wrap_i64 (by omega);have hk0:(0:Int)<=(k:Int):=by omega
 have hk':k<l:=hk;have hxa:(LL a)[k]?=some (.v (.int .u32 (x:Int))):=by simp[LL,hx]
 have af2:=idx hxa;have hz2:=idx hz;have hla:k<a.length:=(bH hx)
 have hq:(r*4294967296+x) / d<4294967296:=yG hr hx32;have hm:(r*4294967296+x) % d<d:=Nat.mod_lt _ (by omega);have w2:ah .u64 (x:Int)=(x:Int):=wrap_u64 (by omega);have w4:ah .u64 (d:Int)=(d:Int):=wrap_u64 (by omega);have hd0:¬ ((d:Int)=0):=by omega
 have Ws:¬ d=0:=by omega
 obtain⟨R,hR⟩:∃ R:Nat,R=r*4294967296:=⟨_,rfl⟩
 obtain⟨Y,hY⟩:∃ Y:Nat,Y=r*4294967296+x:=⟨_,rfl⟩
 have w1:Kb .u64 (r:Int) 32=(R:Int):=by rw[Rn (by omega)];omega
 have w3:Am .u64 (R:Int) (x:Int)=(Y:Int):=by
  have:=Al (r:=r) (x:=x) (by omega) hx32;rw[show(R:Int)=(r:Int)*4294967296 by omega,this];omega
 rw[<-hY]at hq hm ⊢;clear hY hR;have w5:Int.tdiv (Y:Int) (d:Int)=((Y / d:Nat):Int):=by rw[Int.tdiv_eq_ediv_of_nonneg (by omega),Int.natCast_ediv]
 have w6:Int.tmod (Y:Int) (d:Int)=((Y % d:Nat):Int):=by rw[Int.tmod_eq_emod_of_nonneg (by omega),Int.natCast_emod]
 generalize Y / d=qq,Y % d=mm at*;have w7:ah .u64 (qq:Int)=(qq:Int):=wrap_u64 (by omega);have w8:ah .u32 (qq:Int)=(qq:Int):=wrap_u32 (by omega);unfold Ro;simp only[LD];generalize LL a=xs at*;simp -implicitDefEqProofs[IntKind.bits,smB,f233,hk',hk0,hdec,hxa,af2,hz,hz2,w1,w2,w3,w4,w5,w6,w7,w8,hd0,Ws]
def jM (m:Nat)(q:List Nat):List Nat:=List.replicate m 0++q
theorem MO (q:List Nat)(m:Nat):(LL (jM (m+1) q))[m]?=some (.v (.int .u32 0)):=by
 simp[LL,jM,List.getElem?_append_left]
theorem G6 (q:List Nat)(m v:Nat):(LL (jM (m+1) q)).set m (.v (.int .u32 (v:Int)))=LL (jM m (v::q)):=by
 simp only[LL,jM,List.map_append,List.map_replicate,List.replicate_succ',List.append_assoc];rw[List.set_append_right _ _ (by simp)];simp
theorem qE (q:List Nat)(m:Nat):(LL (jM m q)).length=m+q.length:=by simp[LL,jM]
def smI (a:List Nat)(d:Nat)(t:Nat × List Nat × Nat):Prop :=
 t.1<=a.length/\t.1+t.2.1.length=a.length/\t.2.2<d/\bT t.2.1/\val (a.drop t.1)=val t.2.1*d+t.2.2
theorem Kc {B V d r x Y:Nat}(hY:Y=r*B+x):x+B*(V*d+r)=(Y / d+B*V)*d+Y % d:=by
 have:=Nat.div_add_mod Y d;rw[Nat.add_mul];have e:B*(V*d+r)=B*V*d+r*B:=by rw[Nat.mul_add,Nat.mul_assoc,Nat.mul_comm r B]
 rw[e,Nat.mul_comm (Y / d) d];omega
theorem Ke (a:List Nat)(d:Nat)(la:a.length<=1000000000)(ha:bT a)(hd:d<4294967296)(hd0:0<d) :
  ∃ r,Ex E0 (.loop smB) (Ro a (LL (jM a.length [])) d a.length ((a.length:Int)-1) 0 .u) r /\
   ∃ q m,bT q/\q.length=a.length/\val q=val a / d/\m=val a % d/\r=(.exit 0,Ro a (LL q) d a.length (-1) m (.d (.v (.bool false)))):=by
 refine Ex.inv (S:=fun t:Nat × List Nat × Nat=>Ro a (LL (jM t.1 t.2.1)) d a.length ((t.1:Int)-1) t.2.2 .u) (fun t=>t.1) (smI a d) _ ?_ (a.length,[],0) ?_
 ·rintro⟨k,q,r⟩ ⟨h1,h2,h3,h4,h5⟩;simp only at h1 h2 h3 h4 h5;cases k with
  | zero =>
   refine .inr ⟨_,?_,?_,q,r,h4,by omega,?_,?_,rfl⟩
   ·have:=Og 0 a (LL q) d a.length r;simpa[jM] using Ex.of this
   ·simp
   ·rw[List.drop_zero]at h5;rw[h5,Nat.mul_comm,Nat.mul_add_div hd0,Nat.div_eq_of_lt h3];rfl
   ·rw[List.drop_zero]at h5;rw[h5,Nat.mul_comm,Nat.mul_add_mod,Nat.mod_eq_of_lt h3]
  | succ k =>
   have hx:a[k]?=some (a[k]'(by omega)):=List.getElem?_eq_getElem (by omega);have hx32:a[k]'(by omega)<4294967296:=ha _ (List.getElem_mem _);have hat:bE a k=a[k]'(by omega):=by simp[bE,hx]
   generalize a[k]'(by omega)=x at hx hx32 hat;have hr:=G5 0 a (LL (jM (k+1) q)) a.length d k r x (by omega) la hx hx32 hd h3 (by rw[qE];omega) (MO q k);rw[G6]at hr;refine .inl ⟨(k,(r*4294967296+x) / d::q,(r*4294967296+x) % d),?_,by simp,?_,?_,?_,?_,?_⟩
   ·simp only;rw[show(((k+1:Nat):Int)-1)=(k:Int) by omega];exact Ex.of hr
   ·simp only;omega
   ·simp only[List.length_cons];omega
   ·exact Nat.mod_lt _ hd0
   ·intro y hy;rcases List.mem_cons.1 hy with rfl|hy
    ·exact yG h3 hx32
    ·exact h4 y hy
   ·simp only[val];rw[iQ,hat,h5];exact Kc rfl
 ·refine⟨by simp,by simp,hd0,?_,?_⟩
  ·intro x hx;cases hx
  ·simp[val]
theorem Rp (a:List Nat)(d:Nat)(la:a.length<=1000000000)(ha:bT a)(hd:d<4294967296)(hd0:0<d) :
  Ca E0 Z9 [.d (LD a),.d (.v (.int .u32 d))] (.d (.t [LD (enc (val a / d)),.v (.int .u32 ((val a % d:Nat):Int))]),none):=by
 obtain⟨r,hl,q,m,hq,Z_,hv,hm,rfl⟩:=Ke a d la ha hd hd0;obtain⟨n0,hc⟩:=(gY q (by omega)).get;rw[cB hq,hv]at hc;have hlo:(LL q).length=a.length:=by simp[LL,Z_]
 have hla:(LL a).length=a.length:=by simp[LL]
 have htk:(LL q).take a.length=LL q:=List.take_of_length_le (by omega);have hz:LL (jM a.length [])=List.replicate a.length (.v (.int .u32 0)):=by simp[LL,jM]
 have hmd:m<4294967296:=by have:=Nat.mod_lt (val a) hd0;omega
 have hw:ah .u32 (m:Int)=(m:Int):=wrap_u32 (by omega);rw[<-hm];generalize enc (val a / d)=res at*;refine Ca.body (o:=.ret) (st1:=(st0 [.u,.u,.d (LD res),.d (.v (.int .u32 m)),.u,.u,.u,.u] [.gG 0 1 (LL q)])) rfl (k233:E0.fn _=_) rfl ?_ (by intro id h;cases h) ?_
 ·show Ex E0 (.seq Ak.body.l (.seq Ak.body.r.l (.seq (.seq Ak.body.r.r.l.l (.block 0 (.loop smB))) Ak.body.r.r.r))) _ _;refine Ex.seq (st1:=(st0 [.d (LD a),.d (.v (.int .u32 d)),.u,.u,.u,.u,.u,.u] [])) (Ex.of (n:=40) ?_)
   (Ex.seq (st1:=(st0 [.d (LD a),.d (.v (.int .u32 d)),.u,.u,.ls (.loc 0) 0 1 0 a.length,.d (.v (.int .u64 0)),.u,.u] [.row 0 1 (LL (jM a.length []))])) (Ex.of (n:=40) ?_)
   (Ex.seq (Ex.seq (Ex.of (n:=40) ?_) hl.block) (Ex.of (n:=n0+40) ?_)))
  ·simp -implicitDefEqProofs[f233]
  ·have hm1:(a.length:Int)*4<=1099511627776:=by omega
   have hm2:(a.length:Int)<=1099511627776:=by omega
   rw[hz];simp -implicitDefEqProofs[f233,LD,hla,hm1,hm2,most]
  ·have hdec:ah .i64 ((a.length:Int)-1)=(a.length:Int)-1:=wrap_i64 (by omega);unfold Ro;simp -implicitDefEqProofs[f233,LD,hla,hdec]
  ·unfold Ro;simp only[LD]at hc ⊢;clear hl;generalize LL q=es at*;simp -implicitDefEqProofs[ae.view,f233,hlo,htk,hc,hw]
 ·simp -implicitDefEqProofs[f233,LD,tN]
abbrev Rq:Nat:=188
abbrev Ao:ai:=f188
theorem zK:∀ (O:List Nat) (m v:Nat),m<O.length->val (O.set m v)+4294967296 ^ m*bE O m=val O+4294967296 ^ m*v
 | [],m,v,h=>by simp at h
 | y::r,0,v,_=>by simp[val,bE];omega
 | y::r,m+1,v,h=>by
  have ih:=zK r m v (by simpa using h);rw[List.set_cons_succ,val,val];have:bE (y::r) (m+1)=bE r m:=by simp[bE]
  rw[this,Nat.pow_succ];generalize 4294967296 ^ m=p,bE r m=q at*;have e1:p*4294967296*q=4294967296*(p*q):=by grind
  have e2:p*4294967296*v=4294967296*(p*v):=by grind
  rw[e1,e2];omega
theorem Fp {O:List Nat}(h:bT O){m v:Nat}(hv:v<4294967296):bT (O.set m v):=by
 intro x hx;rcases List.mem_or_eq_of_mem_set hx with h1|h1
 ·exact h x h1
 ·omega
def Fq:aH:=Ao.body.r.r.l.r.bl.lp
def tjB:aH:=Fq.r.r.l.bl.r.r.r.bl.lp
def Rs (a b O:List Nat)(n i s j:Nat)(t:FV):St:=(st0 [.d (LD a),.d (LD b),.u,.ls (.loc 0) 0 1 0 n,.d (.v (.int .i64 i)),.d (.v (.int .u64 s)),.d (.v (.int .i64 j)),.d (.v (.int .i64 a.length)),.d (.v (.int .i64 i)),.u,t] [.row 0 1 (LL O)])
theorem Oh (n:Nat)(a b O:List Nat)(l i j:Nat)(hj:¬ j<b.length):EX E0 (n+60) tjB (Rs a b O l i 0 j .u)=some (.exit 2,Rs a b O l i 0 j (.d (.v (.bool false)))):=by
 have hlb:(LL b).length=b.length:=by simp[LL]
 unfold Rs;simp only[LD];generalize LL b=bs,LL a=as' at*;simp -implicitDefEqProofs[tjB,Fq,f188,hlb,hj]
theorem G7 (n:Nat)(a b O:List Nat)(l i s j T:Nat)(hc:j<b.length\/0<s)(hm:i+j<l)(hl:l<=1000000000)(la:a.length<=1000000000)(lb:b.length<=1000000000)(ha:bT a)(hb:bT b)(hO:bT O)
  (he:O.length=l) (hs:s<4294967296) (hT:T=s+(bE O (i+j)+bE a i*bE b j)) :
  EX E0 (n+60) tjB (Rs a b O l i s j .u)=some (.norm,Rs a b (O.set (i+j) (T % 4294967296)) l i (T / 4294967296) (j+1) .u):=by
 have h1:=fun m=>jT m a la i (by omega) ha
 have h2:=fun m=>jT m b lb j (by omega) hb
 have xa:=cZ ha i;have xb:=cZ hb j;have xo:=cZ hO (i+j);have ho:(LL O)[i+j]?=some (.v (.int .u32 (bE O (i+j):Int))):=by
  have:O[i+j]?=some (O[i+j]'(by omega)):=List.getElem?_eq_getElem (by omega);simp[LL,bE,this]
 have hset:LL (O.set (i+j) (T % 4294967296))=(LL O).set (i+j) (.v (.int .u32 ((T % 4294967296:Nat):Int))):=by simp[LL,List.map_set]
 have hlb:(LL b).length=b.length:=by simp[LL]
 simp only[LD]at h1 h2;have bD:ah .i64 ((j:Int)+1)=(j:Int)+1:=wrap_i64 (by omega);have hk1:((j+1:Nat):Int)=(j:Int)+1:=by omega
 unfold Rs;rw[hset,hk1];generalize bE a i=x,bE b j=y,bE O (i+j)=o at*;have hxy:x*y<=4294967295*4294967295:=Nat.mul_le_mul (by omega) (by omega);have wm:ah .i64 ((i:Int)+(j:Int))=((i+j:Nat):Int):=by rw[wrap_i64 (by omega)];omega
 generalize i+j=m at*;obtain⟨P,hP⟩:∃ P:Nat,P=x*y:=⟨_,rfl⟩
 have w1:ah .u64 ((x:Int)*(y:Int))=(P:Int):=by rw[<-Int.natCast_mul,<-hP];exact wrap_u64 (by omega)
 rw[<-hP]at hT hxy;have w2:ah .u64 (o:Int)=(o:Int):=wrap_u64 (by omega);obtain⟨Q,hQ⟩:∃ Q:Nat,Q=o+P:=⟨_,rfl⟩
 have w3:ah .u64 ((o:Int)+(P:Int))=(Q:Int):=by rw[wrap_u64 (by omega)];omega
 have w4:ah .u64 ((s:Int)+(Q:Int))=(T:Int):=by rw[wrap_u64 (by omega)];omega
 have w5:ah .u32 (T:Int)=((T % 4294967296:Nat):Int):=by rw[dD];omega
 have w6:Int.fdiv (T:Int) 4294967296=((T / 4294967296:Nat):Int):=by rw[Int.fdiv_eq_ediv_of_nonneg _ (by omega)];omega
 clear hP hQ hT hxy;generalize T % 4294967296=lo,T / 4294967296=hi at*;have hm0:(0:Int)<=(m:Int):=by omega
 have ho2:=idx ho;simp only[LD];generalize LL b=bs,LL a=as',LL O=es at*
 by_cases hj:j<b.length
 ·simp -implicitDefEqProofs[IntKind.bits,tjB,Fq,f188,hlb,hj,h1,h2,bD,wm,hm,hm0,ho,ho2,w1,w2,w3,w4,w5,w6]
 ·have hs0:0<s:=by omega
  simp -implicitDefEqProofs[IntKind.bits,tjB,Fq,f188,hlb,hj,hs0,h1,h2,bD,wm,hm,hm0,ho,ho2,w1,w2,w3,w4,w5,w6]
theorem Kg {V V' P o lo hi s xy:Nat}(h1:V'+P*o=V+P*lo)(h2:s+(o+xy)=lo+4294967296*hi):V'+hi*(P*4294967296)=V+s*P+P*xy:=by
 have h3:P*(s+(o+xy))=P*(lo+4294967296*hi):=by rw[h2]
 grind
def tjI (a b:List Nat)(n i:Nat)(t:List Nat × Nat × Nat):Prop :=
 t.1.length=n/\bT t.1/\t.2.1<4294967296/\val t.1+t.2.1*4294967296 ^ (i+t.2.2)=bW a i*val b+4294967296 ^ i*(bE a i*bW b t.2.2)
theorem Ap {a b:List Nat}{i j:Nat}(hj:b.length<=j):bW a i*val b+4294967296 ^ i*(bE a i*bW b j)=bW a (i+1)*val b:=by
 rw[fo hj,dX,Nat.add_mul,Nat.mul_assoc]
theorem Rt {a b:List Nat}(ha:bT a)(hb:bT b)(i:Nat):bW a (i+1)*val b<4294967296 ^ (i+1+b.length):=by
 have h1:=nL ha (i+1);have h2:=nC hb;rw[Nat.pow_add];exact Nat.mul_lt_mul_of_lt_of_le h1 (Nat.le_of_lt h2) (Nat.pow_pos (by omega))
theorem Kh {a b O:List Nat}{i j s:Nat}(ha:bT a)(hb:bT b)(hj:b.length<=j)
  (h:val O+s*4294967296 ^ (i+j)=bW a i*val b+4294967296 ^ i*(bE a i*bW b j)) (hs:0<s):j=b.length:=by
 rw[Ap hj]at h;have h1:=Rt ha hb i;rcases Nat.lt_or_ge b.length j with h2|h2
 ·exfalso;have h3:4294967296 ^ (i+1+b.length)<=4294967296 ^ (i+j):=Nat.pow_le_pow_right (by omega) (by omega);have h4:4294967296 ^ (i+j)<=s*4294967296 ^ (i+j):=Nat.le_mul_of_pos_left _ hs;omega
 ·omega
theorem G8 (a b O:List Nat)(i:Nat)(hi:i<a.length)(la:a.length<=100000000)(lb:b.length<=100000000)(ha:bT a)(hb:bT b)(hO:bT O)(he:O.length=a.length+b.length)(hv:val O=bW a i*val b) :
  ∃ r,Ex E0 (.loop tjB) (Rs a b O (a.length+b.length) i 0 0 .u) r/\∃ O' j,bT O'/\O'.length=a.length+b.length/\val O'=bW a (i+1)*val b /\
   r=(.exit 2,Rs a b O' (a.length+b.length) i 0 j (.d (.v (.bool false)))):=by
 refine Ex.inv (S:=fun t:List Nat × Nat × Nat=>Rs a b t.1 (a.length+b.length) i t.2.1 t.2.2 .u) (fun t=>b.length+2-t.2.2) (tjI a b (a.length+b.length) i) _ ?_ (O,0,0) ?_
 ·rintro⟨O,s,j⟩ ⟨h1,h2,h3,h4⟩;simp only at h1 h2 h3 h4
  by_cases hc:j<b.length\/0<s
  ·have hjb:j<=b.length:=by
    rcases Nat.lt_or_ge j b.length with h|h
    ·omega
    ·exact Nat.le_of_eq (Kh ha hb h h4 (by omega))
   have hr:=G7 0 a b O (a.length+b.length) i s j _ hc (by omega) (by omega) (by omega) (by omega) ha hb h2 h1 h3 rfl;have hset:=zK O (i+j) ((s+(bE O (i+j)+bE a i*bE b j)) % 4294967296) (by omega);have xo:=cZ h2 (i+j);have xa:=cZ ha i;have xb:=cZ hb j;have hxy:bE a i*bE b j<=4294967295*4294967295:=Nat.mul_le_mul (by omega) (by omega);have hT:(s+(bE O (i+j)+bE a i*bE b j))=(s+(bE O (i+j)+bE a i*bE b j)) % 4294967296+4294967296*((s+(bE O (i+j)+bE a i*bE b j)) / 4294967296):=by omega
   refine .inl ⟨(O.set (i+j) ((s+(bE O (i+j)+bE a i*bE b j)) % 4294967296),(s+(bE O (i+j)+bE a i*bE b j)) / 4294967296,j+1),Ex.of hr,?_,?_,?_,?_,?_⟩
   ·simp only;omega
   ·simp[h1]
   ·exact Fp h2 (Nat.mod_lt _ (by omega))
   ·simp only;generalize bE a i*bE b j=xy at*;omega
   ·simp only;have:=Kg hset hT;rw[show i+(j+1)=(i+j)+1 by omega,Nat.pow_succ,this,h4,dX];rw[Nat.pow_add];generalize 4294967296 ^ i=p;generalize 4294967296 ^ j=q;grind
  ·have hs:s=0:=by omega
   subst hs;have hj:b.length<=j:=by omega
   rw[Ap hj]at h4;refine .inr ⟨_,Ex.of (Oh 0 a b O (a.length+b.length) i j (by omega)),by simp,O,j,h2,h1,by omega,rfl⟩
 ·exact⟨he,hO,by simp,by simp[hv,bW,val]⟩
def JX (a b O:List Nat)(i:Nat)(t:FV):St:=(st0 [.d (LD a),.d (LD b),.u,.ls (.loc 0) 0 1 0 (a.length+b.length),.u,.u,.u,.d (.v (.int .i64 a.length)),.d (.v (.int .i64 i)),t,.u] [.row 0 1 (LL O)])
theorem G9 (a b:List Nat)(la:a.length<=100000000)(lb:b.length<=100000000)(ha:bT a)(hb:bT b) :
  ∃ r,Ex E0 (.loop Fq) (JX a b (row0 [] (a.length+b.length)) 0 .u) r/\∃ O,bT O/\O.length=a.length+b.length/\val O=val a*val b/\r=(.exit 0,JX a b O a.length (.d (.v (.bool false)))):=by
 refine Ex.inv (S:=fun t:List Nat × Nat=>JX a b t.1 t.2 .u) (fun t=>a.length-t.2) (fun t=>t.2<=a.length/\t.1.length=a.length+b.length/\bT t.1/\val t.1=bW a t.2*val b) _ ?_ (row0 [] (a.length+b.length),0) ?_
 ·rintro⟨O,i⟩ ⟨h1,h2,h3,h4⟩;simp only at h1 h2 h3 h4
  by_cases hi:i<a.length
  ·obtain⟨r,hr,O',j,g1,g2,g3,rfl⟩:=G8 a b O i hi la lb ha hb h3 h2 h4;refine .inl ⟨(O',i+1),?_,by simp only;omega,by simp only;omega,g2,g1,g3⟩;have bD:ah .i64 ((i:Int)+1)=(i:Int)+1:=wrap_i64 (by omega);have hk1:((i+1:Nat):Int)=(i:Int)+1:=by omega
   show Ex E0 (.seq Fq.l (.seq Fq.r.l (.seq (.block 1 (.seq Fq.r.r.l.bl.l (.seq Fq.r.r.l.bl.r.l (.seq Fq.r.r.l.bl.r.r.l (.block 2 (.loop tjB)))))) Fq.r.r.r))) _ _;refine Ex.seq (st1:=JX a b O i (.d (.v (.bool true)))) (Ex.of (n:=40) ?_) (Ex.seq (st1:=JX a b O i (.d (.v (.bool true)))) (Ex.of (n:=40) ?_) (Ex.seq (Ex.h_
    (Ex.seq (st1:={JX a b O i .u with vars:=[.d (LD a),.d (LD b),.u,.ls (.loc 0) 0 1 0 (a.length+b.length),.d (.v (.int .i64 i)),.u,.u,.d (.v (.int .i64 a.length)),.d (.v (.int .i64 i)),.u,.u]}) (Ex.of (n:=40) ?_)
    (Ex.seq (st1:={JX a b O i .u with vars:=[.d (LD a),.d (LD b),.u,.ls (.loc 0) 0 1 0 (a.length+b.length),.d (.v (.int .i64 i)),.d (.v (.int .u64 0)),.u,.d (.v (.int .i64 a.length)),.d (.v (.int .i64 i)),.u,.u]}) (Ex.of (n:=40) ?_)
    (Ex.seq (Ex.of (n:=40) ?_) hr.block)))) (Ex.of (n:=40) ?_)))
   ·unfold JX;simp -implicitDefEqProofs[Fq,f188,hi]
   ·unfold JX;simp -implicitDefEqProofs[Fq,f188]
   ·unfold JX;simp -implicitDefEqProofs[Fq,f188]
   ·unfold JX;simp -implicitDefEqProofs[Fq,f188]
   ·unfold JX Rs;simp -implicitDefEqProofs[Fq,f188]
   ·unfold JX Rs;rw[hk1];simp -implicitDefEqProofs[Fq,f188,bD]
  ·have he:i=a.length:=by omega
   subst he;rw[fo (Nat.le_refl _)]at h4;refine .inr ⟨_,Ex.of (n:=60) ?_,?_,O,h3,h2,h4,rfl⟩
   ·unfold JX;simp -implicitDefEqProofs[Fq,f188]
   ·simp
 ·refine⟨by simp,by simp[row0],?_,?_⟩
  ·intro x hx;simp[row0]at hx;omega
  ·have:∀ m,val (List.replicate m 0)=0:=by
    intro m
    induction m with
    | zero=>rfl
    | succ m ih=>rw[List.replicate_succ,val,ih]
   simp[row0,bW,val,this]
theorem G_ (a b:List Nat)(la:a.length<=100000000)(lb:b.length<=100000000)(ha:bT a)(hb:bT b) :
  Ca E0 Rq [.d (LD a),.d (LD b)] (.d (LD (enc (val a*val b))),none):=by
 obtain⟨r,hl,o,ho,hol,hv,rfl⟩:=G9 a b la lb ha hb;obtain⟨n0,hc⟩:=(gY o (by omega)).get;rw[cB ho,hv]at hc;have hlo:(LL o).length=a.length+b.length:=by simp[LL,hol]
 have hla:(LL a).length=a.length:=by simp[LL]
 have hlb:(LL b).length=b.length:=by simp[LL]
 have htk:(LL o).take (a.length+b.length)=LL o:=List.take_of_length_le (by omega);have hz:=ve (a.length+b.length);generalize enc (val a*val b)=res at*;refine Ca.body (o:=.ret) (st1:=(st0 [.u,.u,.d (LD res),.u,.u,.u,.u,.u,.u,.u,.u] [.gG 0 1 (LL o)])) rfl (k188:E0.fn _=_) rfl ?_ (by intro id h;cases h) ?_
 ·show Ex E0 (.seq Ao.body.l (.seq Ao.body.r.l (.seq (.seq Ao.body.r.r.l.l (.block 0 (.loop Fq))) Ao.body.r.r.r))) _ _;refine Ex.seq (st1:=(st0 [.d (LD a),.d (LD b),.u,.u,.u,.u,.u,.u,.u,.u,.u] [])) (Ex.of (n:=40) ?_)
   (Ex.seq (st1:=(st0 [.d (LD a),.d (LD b),.u,.ls (.loc 0) 0 1 0 (a.length+b.length),.u,.u,.u,.u,.u,.u,.u] [.row 0 1 (LL (row0 [] (a.length+b.length)))])) (Ex.of (n:=40) ?_)
   (Ex.seq (Ex.seq (Ex.of (n:=40) ?_) hl.block) (Ex.of (n:=n0+40) ?_)))
  ·simp -implicitDefEqProofs[f188]
  ·have hw:ah .i64 ((a.length:Int)+(b.length:Int))=((a.length+b.length:Nat):Int):=by rw[wrap_i64 (by omega)];omega
   have hmb:a.length+b.length<=200000000:=by omega
   rw[hz];generalize a.length+b.length=m at*;have hm1:(m:Int)*4<=1099511627776:=by omega
   have hm2:(m:Int)<=1099511627776:=by omega
   simp -implicitDefEqProofs[f188,LD,hla,hlb,hw,hm1,hm2,most]
  ·unfold JX;simp -implicitDefEqProofs[f188,LD,hla]
  ·unfold JX;simp only[LD]at hc ⊢;clear hl;generalize LL o=es,a.length+b.length=m at*;simp -implicitDefEqProofs[ae.view,f188,hlo,htk,hc]
 ·simp -implicitDefEqProofs[f188,LD]
abbrev Y7:Nat:=226
abbrev yH:ai:=f226
abbrev af3:Nat:=183
abbrev aab:ai:=f183
theorem jf {d:Nat}(h0:0<d)(h:d<4294967296):enc d=[d]:=by
 rw[enc,if_neg (by omega),Nat.mod_eq_of_lt h,Nat.div_eq_of_lt h];simp[enc]
theorem dn:enc 0=[]:=by simp[enc]
theorem Ha (r:Nat)(h:r<4294967296):trim [r]=enc r:=by
 rw[cB (by intro x hx;simp at hx;omega)];simp[val]
theorem Ru (a:List Nat)(d:Nat)(la:a.length<=1000000000)(ha:bT a)(hd:d<4294967296)(hd0:0<d) :
  Ca E0 Y7 [.d (LD a),.d (LD (enc d))] (.d (.t [LD (enc (val a / d)),LD (enc (val a % d))]),none):=by
 obtain⟨n0,hs⟩:=(Rp a d la ha hd hd0).any;have hm:val a % d<4294967296:=by have:=Nat.mod_lt (val a) hd0;omega
 obtain⟨n1,hc⟩:=(gY [val a % d] (by simp)).any;replace hs:=hs (n0+n1) (by omega);replace hc:=hc (n0+n1) (by omega);generalize n0+n1=N at*;rw[Ha _ hm]at hc;rw[jf hd0 hd];generalize enc (val a / d)=q,val a % d=m at*;generalize enc m=r at*;simp only[LD,LL,List.map_cons,List.map_nil]at hs hc ⊢;refine Ca.bO (n:=N+60) ?_;rw[ak rfl (k226:E0.fn _=_) rfl];generalize List.map (fun(x:Nat)=>D.v (Value.int IntKind.u32 (x:Int))) a=as' at*;simp -implicitDefEqProofs[f226,tN,hs,hc]
def gcB:aH:=aab.body.r.l.bl.lp
def Dr (a b:Nat)(t:FV):St:=(st0 [.d (LD (enc a)),.d (LD (enc b)),.u,.u,t] [])
theorem fO {n k:Nat}(h:n<4294967296 ^ k):(enc n).length<=k:=by
 induction k generalizing n with
 | zero => have : n = 0 := by simp at h;omega
           subst this;simp[dn]
 | succ k ih =>
  rw[enc];split
  ·simp
  ·simp only[List.length_cons];have:=ih (n:=n / 4294967296) (by rw[Nat.pow_succ]at h;omega);omega
theorem Wu (a:Nat):Ex E0 gcB (Dr a 0 .u) (.exit 0,Dr a 0 (.d (.v (.bool false)))):=by
 refine Ex.of (n:=40) ?_;unfold Dr;simp only[dn,LD];generalize LL (enc a)=as';simp -implicitDefEqProofs[gcB,f183,LL]
abbrev adn:Nat:=267
abbrev D8:ai:=f267
theorem Oi {x s:Nat}(hx:x<4294967296)(hs:s<32):Kb .u64 (x:Int) (s:Int)=((x*2 ^ s:Nat):Int):=by
 have hp:2 ^ s<=2147483648:=by
  have:=Nat.pow_le_pow_right (n:=2) (by omega) (show s<=31 by omega);simpa using this
 have hxs:x*2 ^ s<=4294967295*2147483648:=Nat.mul_le_mul (by omega) hp;rw[zJ,<-b_];have h:(2:Int) ^ (min (Int.toNat (s:Int)) (IntKind.bits .u64))=((2 ^ s:Nat):Int):=by
  have:min (Int.toNat (s:Int)) (IntKind.bits .u64)=s:=by simp[IntKind.bits];omega
  rw[this];simp
 rw[h,<-Int.natCast_mul];exact wrap_u64 (by omega)
theorem aac {r x s:Nat}(hr:r<2 ^ s)(hx:x<4294967296)(hs:s<32):Am .u64 (r:Int) ((x*2 ^ s:Nat):Int)=((r+x*2 ^ s:Nat):Int):=by
 have hp:2 ^ s<=2147483648:=by
  have:=Nat.pow_le_pow_right (n:=2) (by omega) (show s<=31 by omega);simpa using this
 have hxs:x*2 ^ s<=4294967295*2147483648:=Nat.mul_le_mul (by omega) hp;rw[xA,<-b_]
 change ah .u64 ((BitVec.ofInt 64 (r:Int) ||| BitVec.ofInt 64 ((x*2 ^ s:Nat):Int)).toNat:Int)=_
 have e:x*2 ^ s=x <<< s:=by rw[Nat.shiftLeft_eq]
 have l1:r<2 ^ 64:=by omega
 have l2:x <<< s<2 ^ 64:=by rw[<-e];omega
 rw[BitVec.ofInt_natCast,BitVec.ofInt_natCast,BitVec.toNat_or,BitVec.toNat_ofNat,BitVec.toNat_ofNat,e,Nat.mod_eq_of_lt l1,Nat.mod_eq_of_lt l2,Nat.or_comm,<-Nat.shiftLeft_add_eq_or_of_lt hr,Nat.add_comm];refine wrap_u64 ?_;rw[<-e];omega
def leB:aH:=D8.body.r.r.r.l.r.bl.lp
def Wv (a o:List Nat)(k z j r:Nat)(t:FV):St:=(st0 [.u,.d (.v (.int .i64 k)),.u,.ls (.loc 0) j 1 0 (z+j),.d (.v (.int .u64 r)),.u,.d (LD a),.d (.v (.int .i64 a.length)),.d (.v (.int .i64 j)),t] [.row j 1 (LL o)])
theorem Ki (a o:List Nat)(k z s j r x:Nat)(hk:k=32*z+s)(hs:s<32)(hz:z<=100000000)(hx:a[j]?=some x)(hx32:x<4294967296)(la:a.length<=100000000)(ho:o.length=z+j)(hr:r<2 ^ s) :
  EX E0 60 leB (Wv a o k z j r .u)=some (.norm,Wv a (o++[(r+x*2 ^ s) % 4294967296]) k z (j+1) ((r+x*2 ^ s) / 4294967296) .u):=by
 have hj:=(bH hx)
 have hx':(LL a)[j]?=some (.v (.int .u32 (x:Int))):=by simp[LL,hx]
 have hx2:=idx hx';have hp:2 ^ s<=2147483648:=by
  have:=Nat.pow_le_pow_right (n:=2) (by omega) (show s<=31 by omega);simpa using this
 have hxs:x*2 ^ s<=4294967295*2147483648:=Nat.mul_le_mul (by omega) hp;have w1:ah .u64 (x:Int)=(x:Int):=wrap_u64 (by omega);have w2:Int.tmod (k:Int) 32=(s:Int):=by rw[Int.tmod_eq_emod_of_nonneg (by omega)];omega
 have w3:=Oi hx32 hs;have w4:=aac hr hx32 hs;have hT:∃ T:Nat,T=r+x*2 ^ s:=⟨_,rfl⟩
 obtain⟨T,hT⟩:=hT;rw[<-hT]at w4 ⊢;have hTb:T<18446744073709551616:=by omega
 have hP:∃ P:Nat,P=x*2 ^ s:=⟨_,rfl⟩
 obtain⟨P,hP⟩:=hP;rw[<-hP]at w3 w4;have w5:ah .u32 (T:Int)=((T % 4294967296:Nat):Int):=by rw[dD];omega
 have w6:Int.fdiv (T:Int) 4294967296=((T / 4294967296:Nat):Int):=by rw[Int.fdiv_eq_ediv_of_nonneg _ (by omega)];omega
 have bD:ah .i64 ((j:Int)+1)=(j:Int)+1:=wrap_i64 (by omega);have hk1:((j+1:Nat):Int)=(j:Int)+1:=by omega
 have hj0:(0:Int)<=(j:Int):=by omega
 have hs0:¬ ((s:Int)<0):=by omega
 have hol:(LL o).length=z+j:=by simp[LL,ho]
 have htk:(LL o).take (z+j)=LL o:=List.take_of_length_le (by omega);have hm1:(z+j+1)*4<=most:=by simp[most];omega
 have hm2:z+j+1<=most:=by simp[most];omega
 have QN:LL (o++[T % 4294967296])=LL o++[.v (.int .u32 ((T % 4294967296:Nat):Int))]:=by simp[LL]
 clear hT hP hxs hp hTb;generalize T % 4294967296=lo,T / 4294967296=hi at*;unfold Wv;rw[QN,hk1,<-Nat.add_assoc];simp only[LD];generalize LL a=xs,LL o=es,z+j=m at*;simp -implicitDefEqProofs[IntKind.bits,leB,f267,hj,hj0,hx',hx2,bD,hs0,w1,w2,w3,w4,w5,w6,hol,htk,hm1,hm2]
theorem left_step {V r Q x T W E:Nat}(h:V+r*Q=E*W)(hT:T=r+x):V+Q*(T % 4294967296)+T / 4294967296*(Q*4294967296)=E*W+Q*x:=by
 have h1:Q*(T % 4294967296)+T / 4294967296*(Q*4294967296)=Q*T:=by
  have:=Nat.mod_add_div T 4294967296;generalize T % 4294967296=a,T / 4294967296=b at*;subst this;grind
 have h2:Q*T=Q*r+Q*x:=by rw[hT,Nat.mul_add]
 have h3:Q*r=r*Q:=Nat.mul_comm _ _;omega
theorem Oj (m:Nat):val (List.replicate m 0)=0:=by
 induction m with
 | zero=>rfl
 | succ m ih=>rw[List.replicate_succ,val,ih]
theorem Ol (a:List Nat)(k z s:Nat)(hk:k=32*z+s)(hs:s<32)(hz:z<=100000000)(la:a.length<=100000000)(ha:bT a) :
  ∃ r,Ex E0 (.loop leB) (Wv a (List.replicate z 0) k z 0 0 .u) r/\∃ o q,bT o/\o.length=z+a.length/\q<2 ^ s /\
   val o+q*4294967296 ^ (z+a.length)=4294967296 ^ z*2 ^ s*val a/\r=(.exit 0,Wv a o k z a.length q (.d (.v (.bool false)))):=by
 refine Ex.inv (S:=fun t:List Nat × Nat × Nat=>Wv a t.1 k z t.2.1 t.2.2 .u) (fun t=>a.length-t.2.1)
  (fun t=>t.2.1<=a.length/\t.1.length=z+t.2.1/\t.2.2<2 ^ s/\bT t.1/\val t.1+t.2.2*4294967296 ^ (z+t.2.1)=4294967296 ^ z*2 ^ s*bW a t.2.1) _ ?_ (List.replicate z 0,0,0) ?_
 ·rintro⟨o,j,r⟩ ⟨h1,h2,h3,h4,h5⟩;simp only at h1 h2 h3 h4 h5
  by_cases hj:j<a.length
  ·have hx:a[j]?=some (a[j]'hj):=List.getElem?_eq_getElem hj;have hx32:a[j]'hj<4294967296:=ha _ (List.getElem_mem _);have hat:bE a j=a[j]'hj:=by simp[bE,hx]
   generalize a[j]'hj=x at hx hx32 hat;have hr:=Ki a o k z s j r x hk hs hz hx hx32 la h2 h3;refine .inl ⟨(o++[(r+x*2 ^ s) % 4294967296],j+1,(r+x*2 ^ s) / 4294967296),Ex.of hr,by simp only;omega,by simp only;omega,?_,?_,?_,?_⟩
   ·simp only[List.length_append,List.length_cons,List.length_nil];omega
   ·simp only;rw[Nat.div_lt_iff_lt_mul (by omega)];have h6:x*2 ^ s+2 ^ s<=4294967296*2 ^ s:=by rw[<-Nat.succ_mul];exact Nat.mul_le_mul_right _ hx32
    rw[Nat.mul_comm (2 ^ s) 4294967296];omega
   ·exact gZ h4 (fun y hy=>by simp at hy;subst hy;exact Nat.mod_lt _ (by omega))
   ·simp only;rw[val_append,h2,dX,hat,<-Nat.add_assoc,Nat.pow_succ];have hv:val [(r+x*2 ^ s) % 4294967296]=(r+x*2 ^ s) % 4294967296:=by simp[val]
    rw[hv,left_step h5 rfl,Nat.pow_add];generalize 4294967296 ^ z=p;generalize 4294967296 ^ j=q;generalize 2 ^ s=t;grind
  ·have he:j=a.length:=by omega
   subst he;rw[fo (Nat.le_refl _)]at h5;refine .inr ⟨_,Ex.of (n:=60) ?_,?_,o,r,h4,h2,h3,h5,rfl⟩
   ·unfold Wv;simp -implicitDefEqProofs[leB,f267]
   ·simp
 ·refine⟨by simp,by simp,Nat.pow_pos (by omega),?_,?_⟩
  ·intro x hx;have:=List.eq_of_mem_replicate hx;omega
  ·simp[Oj,bW,val]
theorem zL (a:List Nat)(k:Nat)(hk:k<=3200000000)(la:a.length<=100000000)(ha:bT a) :
  Ca E0 adn [.d (LD a),.d (.v (.int .i64 k))] (.d (LD (enc (val a*2 ^ k))),none):=by
 obtain⟨z,s,hzs,hs⟩:∃ z s,k=32*z+s/\s<32:=⟨k / 32,k % 32,by omega,by omega⟩
 have hz:z<=100000000:=by omega
 obtain⟨r,hl,o,q,ho,hol,hq,hv,rfl⟩:=Ol a k z s hzs hs hz la ha;have hp:2 ^ s<=2147483648:=by
  have:=Nat.pow_le_pow_right (n:=2) (by omega) (show s<=31 by omega);simpa using this
 have aiJ:q<4294967296:=by omega
 have hres:val (o++[q])=val a*2 ^ k:=by
  have e:2 ^ (32*z+s)=4294967296 ^ z*2 ^ s:=by rw[Nat.pow_add,Nat.pow_mul]
  have hv2:val [q]=q:=by simp[val]
  rw[val_append,hol,hzs,e,hv2,Nat.mul_comm _ q,hv,Nat.mul_comm]
 have hlim:bT (o++[q]):=gZ ho (fun y hy=>by simp at hy;omega);obtain⟨n0,hc⟩:=(gY (o++[q]) (by simp;omega)).get;rw[cB hlim,hres]at hc;have QN:LL (o++[q])=LL o++[.v (.int .u32 (q:Int))]:=by simp[LL]
 have hlo:(LL o).length=z+a.length:=by simp[LL,hol]
 have hla:(LL a).length=a.length:=by simp[LL]
 have htk:(LL o).take (z+a.length)=LL o:=List.take_of_length_le (by omega);have af4:(LL o++[D.v (.int .u32 (q:Int))]).take (z+a.length+1)=LL o++[.v (.int .u32 (q:Int))]:=List.take_of_length_le (by simp;omega);have hz0:LL (List.replicate z 0)=List.replicate z (.v (.int .u32 0)):=by simp[LL]
 have w5:ah .u32 (q:Int)=(q:Int):=wrap_u32 (by omega);have hm1:(z+a.length+1)*4<=most:=by simp[most];omega
 have hm2:z+a.length+1<=most:=by simp[most];omega
 generalize enc (val a*2 ^ k)=res at*;refine Ca.body (o:=.ret) (st1:=(st0 [.u,.u,.d (LD res),.u,.u,.u,.u,.u,.u,.u] ([.gG (a.length+1) 1 (LL (o++[q]))]))) rfl (k267:E0.fn _=_) rfl ?_ (by intro id h;cases h) ?_
 ·show Ex E0 (.seq D8.body.l (.seq D8.body.r.l (.seq D8.body.r.r.l (.seq (.seq D8.body.r.r.r.l.l (.block 0 (.loop leB))) D8.body.r.r.r.r)))) _ _;refine Ex.seq (st1:=(st0 [.d (LD a),.d (.v (.int .i64 k)),.u,.u,.u,.u,.u,.u,.u,.u] [])) (Ex.of (n:=40) ?_)
   (Ex.seq (st1:=(st0 [.d (LD a),.d (.v (.int .i64 k)),.u,.ls (.loc 0) 0 1 0 z,.u,.u,.u,.u,.u,.u] [.row 0 1 (LL (List.replicate z 0))])) (Ex.of (n:=40) ?_)
   (Ex.seq (st1:=(st0 [.d (LD a),.d (.v (.int .i64 k)),.u,.ls (.loc 0) 0 1 0 z,.d (.v (.int .u64 0)),.u,.u,.u,.u,.u] [.row 0 1 (LL (List.replicate z 0))])) (Ex.of (n:=40) ?_)
   (Ex.seq (Ex.seq (Ex.of (n:=40) ?_) hl.block) (Ex.of (n:=n0+40) ?_))))
  ·simp -implicitDefEqProofs[f267]
  ·have v1:Int.tdiv (k:Int) 32=(z:Int):=by rw[Int.tdiv_eq_ediv_of_nonneg (by omega)];omega
   have v2:ah .i64 (z:Int)=(z:Int):=wrap_i64 (by omega);have v3:ah .i64 ((z:Int)+(a.length:Int))=(z:Int)+(a.length:Int):=wrap_i64 (by omega);have v4:ah .i64 ((z:Int)+(a.length:Int)+1)=(z:Int)+(a.length:Int)+1:=wrap_i64 (by omega);have v5:(z:Int)<=(z:Int)+(a.length:Int)+1:=by omega
   have v6:((z:Int)+(a.length:Int)+1)*4<=1099511627776:=by omega
   have v7:(z:Int)+(a.length:Int)+1<=1099511627776:=by omega
   rw[hz0];clear hl;simp only[LD];generalize LL a=xs,a.length=m at*;simp -implicitDefEqProofs[f267,hla,v1,v2,v3,v4,v5,v6,v7,most]
  ·simp -implicitDefEqProofs[f267]
  ·unfold Wv;simp -implicitDefEqProofs[f267,LD,hla]
  ·unfold Wv;rw[QN];simp only[LD]at hc ⊢;rw[QN]at hc;clear hl;generalize LL o=es,z+a.length=m at*;simp -implicitDefEqProofs[ae.view,f267,hlo,htk,af4,hm1,hm2,w5,hc]
 ·simp -implicitDefEqProofs[f267,LD]
abbrev aad:Nat:=268
abbrev Aq:ai:=f268
def riD (a:List Nat)(s i:Nat):Nat:=(bE a i+4294967296*bE a (i+1)) / 2 ^ s % 4294967296
theorem Hd {x y V s:Nat}(hs:s<32)(hx:x<4294967296) :
  (x+4294967296*(y+4294967296*V)) / 2 ^ s=(x+4294967296*y) / 2 ^ s % 4294967296+4294967296*((y+4294967296*V) / 2 ^ s):=by
 have hp:0<2 ^ s:=Nat.pow_pos (by omega);have hq:2 ^ s*2 ^ (32-s)=4294967296:=by rw[<-Nat.pow_add,show s+(32-s)=32 by omega]
 generalize 2 ^ s=p,2 ^ (32-s)=q at*;have h1:=Nat.mod_add_div ((x+4294967296*(y+4294967296*V)) / p) 4294967296;have h2:(x+4294967296*(y+4294967296*V)) / p / 4294967296=(y+4294967296*V) / p:=by
  rw[Nat.div_div_eq_div_mul,Nat.mul_comm p,<-Nat.div_div_eq_div_mul]
  congr 1
  omega
 have h3:(x+4294967296*(y+4294967296*V)) / p=(x+4294967296*y) / p+4294967296*(q*V):=by
  have e:x+4294967296*(y+4294967296*V)=(x+4294967296*y)+p*(4294967296*(q*V)):=by
   have:4294967296*(4294967296*V)=p*(4294967296*(q*V)):=by rw[<-hq];grind
   omega
  rw[e,Nat.add_mul_div_left _ _ hp]
 have h4:(x+4294967296*(y+4294967296*V)) / p % 4294967296=(x+4294967296*y) / p % 4294967296:=by rw[h3,Nat.add_mul_mod_self_left]
 rw[h2,h4]at h1;exact h1.symm
def riB:aH:=Aq.body.r.r.l.r.bl.lp
def Rv (a o:List Nat)(k i j:Nat)(t:FV):St:=(st0 [.d (LD a),.d (.v (.int .i64 k)),.u,dP j,.d (.v (.int .i64 i)),t] (dQ j (LL o)))
theorem Om (a o:List Nat)(k i j:Nat)(hi:¬ i<a.length):EX E0 60 riB (Rv a o k i j .u)=some (.exit 0,Rv a o k i j (.d (.v (.bool false)))):=by
 have hla:(LL a).length=a.length:=by simp[LL]
 unfold Rv;simp only[LD];generalize LL a=xs,dP j=ov,dQ j (LL o)=oh at*;simp -implicitDefEqProofs[riB,f268,hla,hi]
theorem He (a o:List Nat)(k z s i j:Nat)(hk:k=32*z+s)(hs:s<32)(hz:z<=100000000)(hi:i<a.length)(la:a.length<=100000000)(ha:bT a)(ho:o.length=j)(hj:j<=100000000) :
  EX E0 80 riB (Rv a o k i j .u)=some (.norm,Rv a (o++[riD a s i]) k (i+1) (j+1) .u):=by
 have hla:(LL a).length=a.length:=by simp[LL]
 have h1:=fun m=>jT m a (by omega) (i+1) (by omega) ha
 have h2:=fun m=>jT m a (by omega) i (by omega) ha
 have xa:=cZ ha i;have xb:=cZ ha (i+1);have hk1:((i+1:Nat):Int)=(i:Int)+1:=by omega
 have bD:ah .i64 ((i:Int)+1)=(i:Int)+1:=wrap_i64 (by omega);simp only[LD,hk1]at h1 h2;unfold riD;generalize bE a i=x,bE a (i+1)=y at*;have w1:=Rn xb;have w2:=Al xb xa;obtain⟨P,hP⟩:∃ P:Nat,(P:Int)=(y:Int)*4294967296:=⟨y*4294967296,by omega⟩
 obtain⟨T,hT⟩:∃ T:Nat,T=x+4294967296*y:=⟨_,rfl⟩
 have hT2:(y:Int)*4294967296+(x:Int)=(T:Int):=by omega
 rw[hT2,<-hP]at w2;rw[<-hP]at w1;rw[<-hT];have w3:Int.fdiv (T:Int) (2 ^ (min s 64))=((T / 2 ^ s:Nat):Int):=by
  rw[show min s 64=s by omega,Int.fdiv_eq_ediv_of_nonneg _ (Int.pow_nonneg (by omega)),Int.natCast_ediv];simp
 have w4:Int.tmod (k:Int) 32=(s:Int):=by rw[Int.tmod_eq_emod_of_nonneg (by omega)];omega
 have hTq:T / 2 ^ s<18446744073709551616:=Nat.lt_of_le_of_lt (Nat.div_le_self _ _) (by omega);generalize T / 2 ^ s=Q at*;have w5:ah .u32 (Q:Int)=((Q % 4294967296:Nat):Int):=by rw[dD];omega
 have hs0:¬ ((s:Int)<0):=by omega
 have QN:LL (o++[Q % 4294967296])=LL o++[.v (.int .u32 ((Q % 4294967296:Nat):Int))]:=by simp[LL]
 have hol:(LL o).length=j:=by simp[LL,ho]
 have hv1:dP (j+1)=.ls (.loc 0) j 1 0 (j+1):=by simp[dP]
 have Dv:∀ l,dQ (j+1) l=[.row j 1 l]:=by intro l;simp[dQ]
 have hm1:(j+1)*4<=most:=by simp[most];omega
 have hm2:j+1<=most:=by simp[most];omega
 have htk:(LL o).take j=LL o:=List.take_of_length_le (by omega);clear hP hT hT2 hTq;unfold Rv;rw[QN,hv1,Dv,hk1];generalize Q % 4294967296=lo at*
 by_cases hj0:j=0
 ·have hv:dP j=.d (.n 1):=by simp[dP,hj0]
  have hh:∀ l,dQ j l=[]:=by intro l;simp[dQ,hj0]
  have hLo:LL o=[]:=List.eq_nil_of_length_eq_zero (by omega);have hvk:FV.ls (.loc 0) 0 1 0 1=FV.ls (.loc 0) j 1 0 (j+1):=by rw[hj0]
  have hhk:∀ l,ae.row 0 1 l=ae.row j 1 l:=by intro l;rw[hj0]
  rw[hv,hh,hLo,<-hvk,<-hhk];simp only[LD];generalize LL a=xs at*;simp -implicitDefEqProofs[IntKind.bits,riB,f268,hla,hi,h1,h2,bD,hs0,w1,w2,w3,w4,w5,most]
 ·have hv:dP j=.ls (.loc 0) (j-1) 1 0 j:=by simp[dP,hj0]
  have hh:∀ l,dQ j l=[.row (j-1) 1 l]:=by intro l;simp[dQ,hj0]
  have hk2:j-1+1=j:=by omega
  rw[hv,hh];simp only[LD];generalize LL a=xs,LL o=es at*;simp -implicitDefEqProofs[IntKind.bits,riB,f268,hla,hi,h1,h2,bD,hs0,w1,w2,w3,w4,w5,hm1,hm2,hol,htk,hk2]
theorem Kj (a:List Nat)(k z s:Nat)(hk:k=32*z+s)(hs:s<32)(hz:z<=100000000)(la:a.length<=100000000)(ha:bT a) :
  ∃ r,Ex E0 (.loop riB) (Rv a [] k z 0 .u) r/\∃ o i,bT o/\o.length<=a.length/\val o=val (a.drop z) / 2 ^ s/\r=(.exit 0,Rv a o k i o.length (.d (.v (.bool false)))):=by
 refine Ex.inv (S:=fun t:List Nat × Nat=>Rv a t.1 k (z+t.2) t.2 .u) (fun t=>a.length-t.2)
  (fun t=>t.1.length=t.2/\(t.2=0\/z+t.2<=a.length)/\bT t.1/\val t.1+4294967296 ^ t.2*(val (a.drop (z+t.2)) / 2 ^ s)=val (a.drop z) / 2 ^ s) _ ?_ ([],0) ?_
 ·rintro⟨o,j⟩ ⟨h1,h2,h3,h4⟩;simp only at h1 h2 h3 h4
  by_cases hi:z+j<a.length
  ·have hr:=He a o k z s (z+j) j hk hs hz hi la ha h1 (by omega);refine .inl ⟨(o++[riD a s (z+j)],j+1),?_,by simp only;omega,?_,?_,?_,?_⟩
   ·simp only;rw[<-Nat.add_assoc];exact Ex.of hr
   ·simp[h1]
   ·simp only;omega
   ·exact gZ h3 (fun y hy=>by simp at hy;subst hy;exact Nat.mod_lt _ (by omega))
   ·simp only;rw[val_append,h1,<-h4,<-Nat.add_assoc,iQ a (z+j),iQ a (z+j+1),Hd hs (cZ ha _),Nat.pow_succ];have hv:val [riD a s (z+j)]=riD a s (z+j):=by simp[val]
    rw[hv];unfold riD;rw[Nat.mul_add,Nat.mul_assoc];omega
  ·rw[g_ (by omega),Nat.zero_div,Nat.mul_zero,Nat.add_zero]at h4;refine .inr ⟨_,Ex.of (Om a o k (z+j) j hi),by simp,o,z+j,h3,by omega,h4,by rw[h1]⟩
 ·refine⟨rfl,.inl rfl,?_,by simp[val]⟩;intro x hx;cases hx
theorem Hf:∀ (a:List Nat) (z:Nat),bT a->val (a.drop z)=val a / 4294967296 ^ z
 | a,0,_=>by simp
 | [],z+1,_=>by simp[val]
 | x::r,z+1,h=>by
  have hx:=h x (List.mem_cons_self ..);have e:(x+4294967296*val r) / (4294967296 ^ z*4294967296)=(x+4294967296*val r) / 4294967296 / 4294967296 ^ z:=by
   rw[Nat.mul_comm (4294967296 ^ z) 4294967296,Nat.div_div_eq_div_mul]
  have e2:(x+4294967296*val r) / 4294967296=val r:=by omega
  rw[List.drop_succ_cons,Hf r z (fun y hy=>h y (List.mem_cons_of_mem _ hy)),val,Nat.pow_succ,e,e2]
theorem Rw (a:List Nat)(k:Nat)(hk:k<=3200000000)(la:a.length<=100000000)(ha:bT a) :
  Ca E0 aad [.d (LD a),.d (.v (.int .i64 k))] (.d (LD (enc (val a / 2 ^ k))),none):=by
 obtain⟨z,s,hzs,hs⟩:∃ z s,k=32*z+s/\s<32:=⟨k / 32,k % 32,by omega,by omega⟩
 have hz:z<=100000000:=by omega
 obtain⟨r,hl,o,i,ho,hol,hv,rfl⟩:=Kj a k z s hzs hs hz la ha;have hres:val o=val a / 2 ^ k:=by
  rw[hv,Hf a z ha,Nat.div_div_eq_div_mul,hzs,Nat.pow_add,Nat.pow_mul]
 obtain⟨n0,hc⟩:=(gY o (by omega)).get;rw[cB ho,hres]at hc;have hlo:(LL o).length=o.length:=by simp[LL]
 generalize enc (val a / 2 ^ k)=res at*;refine Ca.body (o:=.ret) (st1:=(st0 [.u,.u,.d (LD res),.u,.u,.u] (if o.length=0 then [] else [.gG (o.length-1) 1 (LL o)]))) rfl (k268:E0.fn _=_) rfl ?_ (by intro id h;cases h) ?_
 ·show Ex E0 (.seq Aq.body.l (.seq Aq.body.r.l (.seq (.seq Aq.body.r.r.l.l (.block 0 (.loop riB))) Aq.body.r.r.r))) _ _;refine Ex.seq (st1:=(st0 [.d (LD a),.d (.v (.int .i64 k)),.u,.u,.u,.u] [])) (Ex.of (n:=40) ?_)
   (Ex.seq (st1:=(st0 [.d (LD a),.d (.v (.int .i64 k)),.u,.d (.n 1),.u,.u] [])) (Ex.of (n:=40) ?_)
   (Ex.seq (Ex.seq (Ex.of (n:=40) ?_) hl.block) (Ex.of (n:=n0+40) ?_)))
  ·simp -implicitDefEqProofs[f268]
  ·simp -implicitDefEqProofs[f268]
  ·have v1:Int.tdiv (k:Int) 32=(z:Int):=by rw[Int.tdiv_eq_ediv_of_nonneg (by omega)];omega
   have v2:ah .i64 (z:Int)=(z:Int):=wrap_i64 (by omega);unfold Rv;simp -implicitDefEqProofs[f268,v1,v2,dP,dQ]
  ·unfold Rv;simp only[LD]at hc ⊢
   by_cases hk0:o.length=0
   ·have hLo:LL o=[]:=List.eq_nil_of_length_eq_zero (by omega);have hv1:dP o.length=.d (.n 1):=by simp[dP,hk0]
    have Dv:∀ l,dQ o.length l=[]:=by intro l;simp[dQ,hk0]
    rw[if_pos hk0,hv1,Dv];rw[hLo]at hc;clear hl;simp -implicitDefEqProofs[f268,hc]
   ·have htk:(LL o).take o.length=LL o:=List.take_of_length_le (by omega);have hv1:dP o.length=.ls (.loc 0) (o.length-1) 1 0 o.length:=by simp[dP,hk0]
    have Dv:∀ l,dQ o.length l=[.row (o.length-1) 1 l]:=by intro l;simp[dQ,hk0]
    rw[if_neg hk0,hv1,Dv];clear hl;generalize LL o=es,o.length=m at*;simp -implicitDefEqProofs[ae.view,f268,hlo,htk,hc]
 ·simp -implicitDefEqProofs[f268,LD]
set_option maxRecDepth 100000
abbrev aaf:Nat:=303
abbrev ado:Nat:=287
abbrev ah8:ai:=f287
abbrev Ww:Nat:=266
abbrev afE:ai:=f266
def fP (x:Nat):Nat:=if x=0 then 0 else Nat.log2 x+1
def oD:ByteArray:=⟨#[0,1,2,2,3,3,3,3,4,4,4,4,4,4,4,4,5,5,5,5,5,5,5,5,5,5,5,5,5,5,5,5,6,6,6,6,6,6,6,6,6,6,6,6,6,6,6,6,6,6,6,6,6,6,6,6,6,6,6,6,6,6,6,6,7,7,7,7,7,7,7,7,7,7,7,7,7,7,7,7,7,7,7,7,7,7,7,7,7,7,7,7,7,7,7,7,7,7,7,7,7,7,7,7,7,7,7,7,7,7,7,7,7,7,7,7,7,7,7,7,7,7,7,7,7,7,7,7,8,8,8,8,8,8,8,8,8,8,8,8,8,8,8,8,8,8,8,8,8,8,8,8,8,8,8,8,8,8,8,8,8,8,8,8,8,8,8,8,8,8,8,8,8,8,8,8,8,8,8,8,8,8,8,8,8,8,8,8,8,8,8,8,8,8,8,8,8,8,8,8,8,8,8,8,8,8,8,8,8,8,8,8,8,8,8,8,8,8,8,8,8,8,8,8,8,8,8,8,8,8,8,8,8,8,8,8,8,8,8,8,8,8,8,8,8,8,8,8,8,8,8,8,8,8,8,8]⟩
def Hg (t:ByteArray):ai:={np:=1,nv:=4,ref:=false,res:=[.var 1],body:=(.seq (.region [⟨false,none,.zM (.c (.v (.int .i64 0)))⟩] [(1,0)] []) (.seq (.seq (.region [⟨false,none,.zM (.var 0)⟩,⟨false,none,.bin .geq (.loc 0) (.c (.v (.int .u32 65536)))⟩] [(2,1)] []) (.cond (.var 2) (.seq (.seq (.region [⟨false,none,.zM (.var 0)⟩,⟨false,none,.bin .shr (.loc 0) (.c (.v (.int .u64 16)))⟩,⟨false,none,.zM (.loc 1)⟩] [(0,2)] []) (.kill [1,2])) (.region [⟨false,none,.zM (.c (.v (.int .i64 16)))⟩] [(1,0)] [])) .skip)) (.seq (.seq (.seq (.region [⟨false,none,.zM (.var 0)⟩,⟨false,none,.bin .geq (.loc 0) (.c (.v (.int .u32 256)))⟩] [(3,1)] []) (.kill [2])) (.cond (.var 3) (.seq (.seq (.region [⟨false,none,.zM (.var 0)⟩,⟨false,none,.bin .shr (.loc 0) (.c (.v (.int .u64 8)))⟩,⟨false,none,.zM (.loc 1)⟩] [(0,2)] []) (.kill [3])) (.region [⟨false,none,.zM (.var 1)⟩,⟨false,none,.bin .add (.loc 0) (.c (.v (.int .i64 8)))⟩,⟨false,none,.zM (.loc 1)⟩] [(1,2)] [])) .skip)) (.seq (.seq (.region [⟨false,none,.zM (.var 1)⟩,⟨false,none,.zM (.var 0)⟩,⟨false,none,.conv .u8 (.loc 1)⟩,⟨false,none,.um (.c (.v (.string t))) (.loc 2)⟩,⟨false,none,.conv .i64 (.loc 3)⟩,⟨false,none,.bin .add (.loc 0) (.loc 4)⟩,⟨false,none,.zM (.loc 5)⟩] [(1,6)] []) (.kill [0,3])) .ret))))}
theorem Wx:f303=Hg oD:=rfl
theorem Wy:((List.range 256).all fun i=>match oD[i]? with|some b=>Nat.beq b.toNat (fP i)|none=>false)=true:=by kernel_rfl
theorem Wz {i:Nat}(h:i<256):∃ b:UInt8,oD[i]?=some b/\b.toNat=fP i:=by
 have:=aag Wy h;cases hb:oD[i]? with
 | none=>rw[hb]at this;cases this
 | some b=>rw[hb]at this;exact⟨b,rfl,Nat.eq_of_beq_eq_true this⟩
theorem uo {x s:Nat}(h:2 ^ s<=x):fP x=fP (x / 2 ^ s)+s:=by
 have hp:0<2 ^ s:=Nat.pow_pos (by omega);have h1:0<x / 2 ^ s:=Nat.div_pos h hp;unfold fP;rw[if_neg (by omega),if_neg (by omega)];have h2:Nat.log2 x=Nat.log2 (x / 2 ^ s)+s:=by
  rw[Nat.log2_eq_iff (by omega)];have a1:=Nat.log2_self_le (n:=x / 2 ^ s) (by omega);have a2:=Nat.lt_log2_self (n:=x / 2 ^ s);constructor
  ·rw[Nat.pow_add];exact Nat.le_trans (Nat.mul_le_mul_right _ a1) (Nat.div_mul_le_self x (2 ^ s))
  ·rw[show Nat.log2 (x / 2 ^ s)+s+1=(Nat.log2 (x / 2 ^ s)+1)+s by omega,Nat.pow_add];exact(Nat.div_lt_iff_lt_mul hp).1 a2
 omega
theorem DZ {E:Env}{st:St}{rec:Nat->List FV->List ae->bF}{env:List FV}{draw:Bool}{x i:Arg}:RK E rec draw st env (.um x i)=runK E rec draw st env (.um x i):=cK ..
theorem wrap_u8 {z:Int}(h:0<=z/\z<256):ah .u8 z=z:=by
 rw[b_];simp only[IntKind.wrap,IntKind.bits,IntKind.signed];simp;omega
theorem zN {x:Nat}(h:x<4294967296):fP x<=32:=by
 unfold fP;split
 ·omega
 ·have:=(Nat.log2_lt (n:=x) (k:=32) (by omega)).2 (by omega);omega
theorem Oo (n x:Nat)(hx:x<4294967296):CL E0 (n+40) aaf [.d (.v (.int .u32 x))] []=some (.d (.v (.int .i64 (fP x))),none):=by
 rw[ak rfl ((k303:E0.fn _=_).trans (congrArg some Wx)) rfl];have fin:∀ (y m:Nat),y<256->m<=24->fP x=fP y+m->∃ b:UInt8,oD[y]?=some b/\ah .u8 (y:Int)=(y:Int)/\ah .i64 ((b.toNat:Nat):Int)=((b.toNat:Nat):Int) /\
   ah .i64 ((m:Int)+((b.toNat:Nat):Int))=(fP x:Int):=by
  intro y m hy hm he;obtain⟨b,h1,h2⟩:=Wz hy;have hb:=b.toNat_lt;exact⟨b,h1,wrap_u8 (by omega),wrap_i64 (by omega),by rw[wrap_i64 (by omega)];omega⟩
 by_cases hA:65536<=x
 ·have hA':(65536:Int)<=(x:Int):=by omega
  have w1:Int.fdiv (x:Int) 65536=((x / 65536:Nat):Int):=by rw[Int.fdiv_eq_ediv_of_nonneg _ (by omega)];omega
  have e1:fP x=fP (x / 65536)+16:=uo (s:=16) (by omega);have hx1:x / 65536<65536:=by omega
  generalize x / 65536=x1 at*
  by_cases hB:256<=x1
  ·have hB':(256:Int)<=(x1:Int):=by omega
   have w2:Int.fdiv (x1:Int) 256=((x1 / 256:Nat):Int):=by rw[Int.fdiv_eq_ediv_of_nonneg _ (by omega)];omega
   have e2:fP x1=fP (x1 / 256)+8:=uo (s:=8) (by omega);have hx2:x1 / 256<256:=by omega
   generalize x1 / 256=x2 at*;obtain⟨b,f1,f2,f3,f4⟩:=fin x2 24 hx2 (by omega) (by omega);have w3:ah .i64 24=24:=wrap_i64 (by omega);have hp:(0:Int)<=(x2:Int):=by omega
   generalize oD=tb at*;simp -implicitDefEqProofs[IntKind.bits,Hg,hA',hB',w1,w2,w3,f1,f2,f3,hp];simpa using f4
  ·have hB':¬ (256:Int)<=(x1:Int):=by omega
   obtain⟨b,f1,f2,f3,f4⟩:=fin x1 16 (by omega) (by omega) (by omega);have hp:(0:Int)<=(x1:Int):=by omega
   generalize oD=tb at*;simp -implicitDefEqProofs[IntKind.bits,Hg,hA',hB',w1,f1,f2,f3,hp];simpa using f4
 ·have hA':¬ (65536:Int)<=(x:Int):=by omega
  by_cases hB:256<=x
  ·have hB':(256:Int)<=(x:Int):=by omega
   have w2:Int.fdiv (x:Int) 256=((x / 256:Nat):Int):=by rw[Int.fdiv_eq_ediv_of_nonneg _ (by omega)];omega
   have e2:fP x=fP (x / 256)+8:=uo (s:=8) (by omega);have hx2:x / 256<256:=by omega
   generalize x / 256=x2 at*;obtain⟨b,f1,f2,f3,f4⟩:=fin x2 8 hx2 (by omega) (by omega);have w3:ah .i64 8=8:=wrap_i64 (by omega);have hp:(0:Int)<=(x2:Int):=by omega
   generalize oD=tb at*;simp -implicitDefEqProofs[IntKind.bits,Hg,hA',hB',w2,w3,f1,f2,f3,hp];simpa using f4
  ·have hB':¬ (256:Int)<=(x:Int):=by omega
   obtain⟨b,f1,f2,f3,f4⟩:=fin x 0 (by omega) (by omega) (by omega);have hp:(0:Int)<=(x:Int):=by omega
   generalize oD=tb at*;simp -implicitDefEqProofs[Hg,hA',hB',f1,f2,f3,hp];simpa[f3] using f4
theorem Rx (n x:Nat)(hx:x<4294967296):CL E0 (n+80) ado [.d (.v (.int .u32 x))] []=some (.d (.v (.int .i64 ((32-fP x:Nat):Int))),none):=by
 have t:=fun m=>Oo m x hx
 have hb:=zN hx;have w:ah .i64 (32-(fP x:Int))=((32-fP x:Nat):Int):=by rw[wrap_i64 (by omega)];omega
 rw[ak rfl (k287:E0.fn _=_) rfl];generalize fP x=bl at*;generalize 32-bl=r at*;simp -implicitDefEqProofs[f287,t,w]
theorem Kk (n:Nat)(b:List Nat)(x:Nat)(hx:x<4294967296)(hl:b.length<=100000000) :
  CL E0 (n+120) Ww [.d (LD (b++[x]))] []=some (.d (.v (.int .i64 ((32*b.length+fP x:Nat):Int))),none):=by
 have t:=fun m=>Rx m x hx
 have hb:=zN hx;have hlen:(LL (b++[x])).length=b.length+1:=by simp[LL]
 have hget:(LL (b++[x]))[b.length]?=some (.v (.int .u32 (x:Int))):=by simp[LL]
 have hb0:(((b.length:Int)+1)==0)=false:=by simp;omega
 have w1:ah .i64 (b.length:Int)=(b.length:Int):=wrap_i64 (by omega);have w2:ah .i64 (32*((b.length:Int)+1))=32*((b.length:Int)+1):=wrap_i64 (by omega);have w3:ah .i64 (32*((b.length:Int)+1)-((32-fP x:Nat):Int))=((32*b.length+fP x:Nat):Int):=by rw[wrap_i64 (by omega)];omega
 rw[ak rfl (k266:E0.fn _=_) rfl];generalize 32*b.length+fP x=res,32-fP x=r at*;simp only[LD];generalize LL (b++[x])=es at*;have Ah:=idx hget;generalize b.length=m at*;simp -implicitDefEqProofs[f266,hlen,Ah,hb0,w1,w2,w3,t]
end Fi.S
