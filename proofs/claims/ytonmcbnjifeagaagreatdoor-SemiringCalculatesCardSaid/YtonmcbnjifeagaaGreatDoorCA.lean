/- Limbs of package rational. -/
import Derived.Test.YtonmcbnjifeagaaGreatDoorSEnv
import Derived.Test.YtonmcbnjifeagaaGreatDoorFiG
set_option linter.unusedVariables false
set_option linter.unusedSimpArgs false
noncomputable section
namespace Fi.S
open Go Fi
set_option maxHeartbeats 8000000
attribute [simp] rk rl sk oo og ci ml mv ld lf fa lo st0 cl ia lr fl ln sv fb mF mi mn bx bc bl pF pT sl RG Vy RH RI Vz RJ Nc Km Nf Ko VA RL VB RN VC VD Ng YE VE VF RO Nh Ni Nj Nk Nl Nn Np VG VH RP RQ VI Nq YF VJ VK RS Nr Ns Nt Nu Nv RU RV VL RX bT RY kr Kr jP runK dC fH fe dK D.cells FV.cells FV.one D.one qM St.push St.heap St.bf splice oG fZ YG YH YI YJ YK abj YL YM YN YO YP YQ YR YS YT YU unV gY kE jr finish qO RZ iE leaves uM leave1 lT Nw xJ jU ry oneOf aI FV.rows FV.qP D.norm D.dJ scalar D.isV FV.shift FV.cK ae.shift jC qQ elems aD.l aD.r aD.bl aD.lp
abbrev nAt:Nat:=225
abbrev fAt:ai:=f225
abbrev VM:Nat:=231
abbrev Gw:ai:=f231
abbrev R3:Nat:=180
abbrev aa4:ai:=f180
theorem jd (n:Nat)(l:List Nat)(hl:l.length<=100000000000)(i:Nat)(hi:i<=100000000000)(hb:∀ x ∈ l,x<4294967296) :
  CL E0 (n+30) nAt [.d (LD l),.d (.v (.int .i64 i))] []=some (.d (.v (.int .u64 (aZ l i))),none):=by
 rw[ah rfl (k225:E0.fn _=_) rfl]
 by_cases h:i<l.length
 ·have h1:((i:Int)<(l.length:Int)):=by omega
  have hx:l[i]?=some l[i]:=List.getElem?_eq_getElem h;have hw:af .u64 (l[i]:Int)=(l[i]:Int):=wrap_u64 (by have:=hb l[i] (List.getElem_mem h);omega);have ha:aZ l i=l[i]:=by simp[aZ,hx]
  simp -implicitDefEqProofs [f225,LD,LL,h1,hx,hw,ha]
 ·have h1:¬ ((i:Int)<(l.length:Int)):=by omega
  have ha:aZ l i=0:=by simp[aZ,List.getElem?_eq_none (Nat.le_of_not_lt h)]
  simp -implicitDefEqProofs [f225,LD,LL,h1,ha]
def Rk (l:List Nat):St:=(st0 [.d (LD l),.u,.u] [])
def VN (l:List Nat):Out × St:=(.exit 0,(st0 [.d (LD (trim l)),.u,.d (.v (.bool false))] []))
def U1:aD:=match Gw.body with
 | .seq _ (.seq (.block _ (.loop b)) _)=>b
 | _=>.skip
theorem Cn (n:Nat):EX E0 (n+40) U1 (Rk [])=some (VN []):=by
 simp -implicitDefEqProofs [U1,Rk,VN,f231,LD,LL,trim]
theorem Ef (n:Nat)(b:List Nat)(x:Nat)(hl:b.length<=100000000000) :
  EX E0 (n+40) U1 (Rk (b++[x]))=if x=0 then some (.norm,Rk b) else some (VN (b++[x])):=by
 have hlen:(LL (b++[x])).length=b.length+1:=by simp[LL]
 have hget:(LL (b++[x]))[b.length]?=some (.v (.int .u32 (x:Int))):=by simp[LL]
 have htake:(LL (b++[x])).take b.length=LL b:=by simp[LL]
 have hpos:(0:Int)<(b.length:Int)+1:=by omega
 have hw:af .i64 (b.length:Int)=(b.length:Int):=wrap_i64 (by omega)
 by_cases h:x=0
 ·subst h;unfold Rk LD;generalize LL (b++[0])=es at hlen hget htake;have xK:=idx hget;have hh:((b.length:Int)<=(b.length:Int)+1):=by omega
  simp -implicitDefEqProofs [U1,f231,hlen,hget,xK,htake,hpos,hw,hh,lh,Jl]
 ·have hx:((x:Int)==0)=false:=by simpa using h
  rw[if_neg h];unfold VN;rw[qb b x h];unfold Rk LD;generalize LL (b++[x])=es at hlen hget htake;have xK:=idx hget;simp -implicitDefEqProofs [U1,f231,hlen,hget,xK,hpos,hw,hx]
theorem Gx (l:List Nat)(hl:l.length<=100000000000):Ex E0 (.loop U1) (Rk l) (VN l):=by
 have:=Ex.while (E:=E0) (b:=U1) (fun a:{l:List Nat // l.length<=100000000000}=>Rk a.1) (fun a=>a.1.length) (fun a=>VN a.1) ?_ ⟨l,hl⟩
 ·exact this
 ·rintro⟨l,hl⟩;rcases List.eq_nil_or_concat l with rfl|⟨b,x,rfl⟩
  ·exact .inr ⟨Ex.of (Cn 0),by intro h;cases h⟩
  ·have hb:b.length<=100000000000:=by simp at hl;omega
   have hr:=Ef 0 b x hb;rw[<-List.concat_eq_append]at hr
   by_cases h:x=0
   ·subst h;rw[if_pos rfl]at hr;refine .inl ⟨⟨b,hb⟩,Ex.of hr,by simp,?_⟩;simp only[VN,List.concat_eq_append,qc]
   ·rw[if_neg h]at hr;exact .inr ⟨Ex.of hr,by intro h;cases h⟩
def clA:aD:=match Gw.body with
 | .seq a _=>a
 | _=>.skip
def clC:aD:=match Gw.body with
 | .seq _ (.seq _ c)=>c
 | _=>.skip
theorem gp (l:List Nat)(hl:l.length<=100000000000):Ca E0 VM [.d (LD l)] (.d (LD (trim l)),none):=by
 refine Ca.body (o:=.ret) (st1:=(st0 [.u,.d (LD (trim l)),.u] [])) rfl (k231:E0.fn _=_) rfl ?_ (by intro id h;cases h) ?_
 ·show Ex E0 (.seq clA (.seq (.block 0 (.loop U1)) clC)) _ _;refine Ex.seq (st1:=Rk l) (Ex.of (n:=40) ?_) (Ex.seq ((Gx l hl).block) (Ex.of (n:=40) ?_))
  ·simp -implicitDefEqProofs [clA,Rk,f231]
  ·simp -implicitDefEqProofs [clC,f231]
 ·simp -implicitDefEqProofs [f231,LD]
abbrev VO:Nat:=181
abbrev R4:ai:=f181
def Co (a b:List Nat):Nat->Int
 | 0=>0
 | k+1=>if aZ a k=aZ b k then Co a b k else if aZ a k<aZ b k then -1 else 1
def U2 (a b:List Nat)(i:Int):St:=(st0 [.d (LD a),.d (LD b),.u,.d (.v (.int .i64 i)),.u,.u,.u,.u] [])
def Ny (a b:List Nat):Nat->Out × St
 | 0=>(.exit 0,(st0 [.d (LD a),.d (LD b),.u,.d (.v (.int .i64 (-1))),.u,.u,.d (.v (.bool false)),.u] []))
 | k+1=>if aZ a k=aZ b k then Ny a b k else(.ret,(st0 [.u,.u,.d (.v (.int .i64 (if aZ a k<aZ b k then -1 else 1))),.u,.u,.u,.u,.u] []))
def R5:aD:=match R4.body with
 | .seq _ (.seq (.seq _ (.block _ (.loop b))) _)=>b
 | _=>.skip
def cmA:aD:=match R4.body with
 | .seq a _=>a
 | _=>.skip
def R6:aD:=match R4.body with
 | .seq _ (.seq (.seq a (.block _ (.loop _))) _)=>a
 | _=>.skip
def cmC:aD:=match R4.body with
 | .seq _ (.seq (.seq _ (.block _ (.loop _))) c)=>c
 | _=>.skip
theorem bO {l:List Nat}(h:bF l)(i:Nat):aZ l i<4294967296:=by
 unfold aZ;cases hx:l[i]? with
 | none=>simp
 | some x=>exact h x (List.mem_of_getElem? hx)
theorem Gy (n:Nat)(a b:List Nat):EX E0 (n+60) R5 (U2 a b (-1))=some (Ny a b 0):=by
 simp -implicitDefEqProofs [R5,U2,Ny,f181]
theorem Kt (n:Nat)(a b:List Nat)(k:Nat)(hk:k<=100000000000)(la:a.length<=100000000000)(lb:b.length<=100000000000)(ha:bF a)(hb:bF b) :
  EX E0 (n+60) R5 (U2 a b k)=if aZ a k=aZ b k then some (.norm,U2 a b ((k:Int)-1)) else some (Ny a b (k+1)):=by
 have h1:=fun m=>jd m a la k hk ha
 have h2:=fun m=>jd m b lb k hk hb
 have xa:=bO ha k;have xb:=bO hb k;have hdec:af .i64 ((k:Int)-1)=(k:Int)-1:=wrap_i64 (by omega);have hk0:(0:Int)<=(k:Int):=by omega
 unfold Ny U2;simp only[LD]at h1 h2 ⊢;generalize aZ a k=x,aZ b k=y at*
 by_cases hxy:x=y
 ·subst hxy;simp -implicitDefEqProofs [R5,f181,h1,h2,hdec,hk0]
 ·have hne:((x:Int) != (y:Int))=true:=by simp;omega
  rw[if_neg hxy,if_neg hxy]
  by_cases hlt:x<y
  ·have hs:af .u64 ((x:Int)-(y:Int))=18446744073709551616+(x:Int)-(y:Int):=by rw[fo];omega
   have hd:Int.fdiv (18446744073709551616+(x:Int)-(y:Int)) 9223372036854775808=1:=by rw[Int.fdiv_eq_ediv_of_nonneg _ (by omega)];omega
   have w1:af .i64 1=1:=wrap_i64 (by omega);have w2:af .i64 2=2:=wrap_i64 (by omega);have w3:af .i64 (-1)=-1:=wrap_i64 (by omega);simp -implicitDefEqProofs [IntKind.bits,R5,f181,h1,h2,hk0,hne,hs,hd,hlt,w1,w2,w3]
  ·have hs:af .u64 ((x:Int)-(y:Int))=(x:Int)-(y:Int):=wrap_u64 (by omega);have hd:Int.fdiv ((x:Int)-(y:Int)) 9223372036854775808=0:=by rw[Int.fdiv_eq_ediv_of_nonneg _ (by omega)];omega
   have w1:af .i64 1=1:=wrap_i64 (by omega);have w0:af .i64 0=0:=wrap_i64 (by omega);simp -implicitDefEqProofs [IntKind.bits,R5,f181,h1,h2,hk0,hne,hs,hd,hlt,w1,w0]
theorem uN (a b:List Nat):∀ k,(Ny a b k=(.exit 0,(st0 [.d (LD a),.d (LD b),.u,.d (.v (.int .i64 (-1))),.u,.u,.d (.v (.bool false)),.u] []))/\Co a b k=0) \/
  Ny a b k=(.ret,(st0 [.u,.u,.d (.v (.int .i64 (Co a b k))),.u,.u,.u,.u,.u] []))
 | 0=>.inl ⟨rfl,rfl⟩
 | k+1=>by
  unfold Ny Co
  by_cases h:aZ a k=aZ b k
  ·rw[if_pos h,if_pos h];exact uN a b k
  ·rw[if_neg h,if_neg h];exact .inr rfl
theorem VP (a b:List Nat)(k:Nat):(Ny a b k).1≠.norm:=by
 rcases uN a b k with ⟨h,_⟩|h<;>rw[h]<;>intro h<;>cases h
theorem Eg (a b:List Nat)(la:a.length<=100000000000)(lb:b.length<=100000000000)(ha:bF a)(hb:bF b):∀ (k:Nat),k<=100000000001->Ex E0 (.loop R5) (U2 a b ((k:Int)-1)) (Ny a b k)
 | 0,_=>Ex.out (Ex.of (n:=60) (Gy 0 a b)) (by intro h;cases h)
 | k+1,hk=>by
  have hr:=Kt 0 a b k (by omega) la lb ha hb;rw[show(((k+1:Nat):Int)-1)=(k:Int) by omega]
  by_cases h:aZ a k=aZ b k
  ·rw[if_pos h]at hr;have:=Eg a b la lb ha hb k (by omega);unfold Ny;rw[if_pos h];exact Ex.next (Ex.of hr) this
  ·rw[if_neg h]at hr;exact Ex.leave (Ex.of hr) (VP a b (k+1))
theorem R7 (a b:List Nat)(la:a.length<=100000000000)(lb:b.length<=100000000000)(ha:bF a)(hb:bF b) :
  Ca E0 VO [.d (LD a),.d (LD b)] (.d (.v (.int .i64 (Co a b (max a.length b.length)))),none):=by
 have hl:=Eg a b la lb ha hb (max a.length b.length) (by omega);have hA:Ex E0 cmA (st0 [.d (LD a),.d (LD b),.u,.u,.u,.u,.u,.u] []) (.norm,(st0 [.d (LD a),.d (LD b),.u,.u,.u,.u,.u,.u] [])) :=
  Ex.of (n:=40) (by simp -implicitDefEqProofs [cmA,f181])
 have hmax:(if a.length<b.length then(b.length:Int) else(a.length:Int))=((max a.length b.length:Nat):Int):=by split<;>omega
 have hw:af .i64 (((max a.length b.length:Nat):Int)-1)=((max a.length b.length:Nat):Int)-1:=wrap_i64 (by omega);have rz:(LL a).length=a.length:=by simp[LL]
 have Ak:(LL b).length=b.length:=by simp[LL]
 have hA2:Ex E0 R6 (st0 [.d (LD a),.d (LD b),.u,.u,.u,.u,.u,.u] []) (.norm,U2 a b (((max a.length b.length:Nat):Int)-1)):=by
  refine Ex.of (n:=40) ?_;unfold U2 LD;generalize max a.length b.length=mm at*;simp -implicitDefEqProofs [R6,f181,rz,Ak,hmax,hw]
 rcases uN a b (max a.length b.length) with ⟨h,h0⟩|h
 ·rw[h]at hl;rw[h0];refine Ca.body (o:=.ret) (st1:=(st0 [.u,.u,.d (.v (.int .i64 0)),.u,.u,.u,.u,.u] [])) rfl (k181:E0.fn _=_) rfl ?_ (by intro id h;cases h) ?_
  ·show Ex E0 (.seq cmA (.seq (.seq R6 (.block 0 (.loop R5))) cmC)) _ _;refine hA.seq ((hA2.seq hl.block).seq (Ex.of (n:=40) ?_));simp -implicitDefEqProofs [cmC,f181]
  ·simp -implicitDefEqProofs [f181]
 ·rw[h]at hl;refine Ca.body (o:=.ret) (st1:=(st0 [.u,.u,.d (.v (.int .i64 (Co a b (max a.length b.length)))),.u,.u,.u,.u,.u] [])) rfl (k181:E0.fn _=_) rfl ?_ (by intro id h;cases h) ?_
  ·show Ex E0 (.seq cmA (.seq (.seq R6 (.block 0 (.loop R5))) cmC)) _ _;refine hA.seq (Ex.eF (hA2.seq hl.cO))
  ·simp -implicitDefEqProofs [f181]
def dD (x y:Nat):Int:=if x<y then -1 else if x=y then 0 else 1
theorem Eh {a b:List Nat}(ha:bF a)(hb:bF b):∀ k,Co a b k=dD (bK a k) (bK b k)
 | 0=>by simp[Co,dD,bK,val]
 | k+1=>by
  rw[Co,Eh ha hb k,dL,dL];have h1:=l8 ha k;have h2:=l8 hb k;unfold dD
  by_cases h:aZ a k=aZ b k
  ·rw[if_pos h,h];generalize 4294967296 ^ k*aZ b k=p
   by_cases h3:bK a k<bK b k
   ·rw[if_pos h3,if_pos (by omega)]
   ·by_cases h4:bK a k=bK b k
    ·rw[if_neg h3,if_pos h4,if_neg (by omega),if_pos (by omega)]
    ·rw[if_neg h3,if_neg h4,if_neg (by omega),if_neg (by omega)]
  ·rw[if_neg h]
   by_cases h3:aZ a k<aZ b k
   ·have:=iF (vb:=bK b k) h1 h3;rw[if_pos h3];generalize 4294967296 ^ k*aZ a k=p,4294967296 ^ k*aZ b k=q at*;rw[if_pos this]
   ·have:=iF (vb:=bK a k) h2 (show aZ b k<aZ a k by omega);rw[if_neg h3];generalize 4294967296 ^ k*aZ a k=p,4294967296 ^ k*aZ b k=q at*;rw[if_neg (by omega),if_neg (by omega)]
theorem uO (a b:List Nat)(la:a.length<=100000000000)(lb:b.length<=100000000000)(ha:bF a)(hb:bF b) :
  Ca E0 VO [.d (LD a),.d (LD b)] (.d (.v (.int .i64 (dD (val a) (val b)))),none):=by
 have h:=R7 a b la lb ha hb;rw[Eh ha hb,eO (by omega),eO (by omega)]at h;exact h
abbrev U3:Nat:=228
abbrev A8:ai:=f228
def R8:aD:=match A8.body with
 | .seq _ (.seq _ (.seq _ (.seq (.seq _ (.block _ (.loop b))) _)))=>b
 | _=>.skip
def YV:aD:=match A8.body with
 | .seq a _=>a
 | _=>.skip
def YW:aD:=match A8.body with
 | .seq _ (.seq a _)=>a
 | _=>.skip
def YX:aD:=match A8.body with
 | .seq _ (.seq _ (.seq a _))=>a
 | _=>.skip
def YY:aD:=match A8.body with
 | .seq _ (.seq _ (.seq _ (.seq (.seq a (.block _ (.loop _))) _)))=>a
 | _=>.skip
def plC:aD:=match A8.body with
 | .seq _ (.seq _ (.seq _ (.seq (.seq _ (.block _ (.loop _))) c)))=>c
 | _=>.skip
def dH (k:Nat):FV:=if k=0 then .d (.n 1) else .ls (.loc 0) (k-1) 1 0 k
def dI (k:Nat)(o:List D):List ae:=if k=0 then [] else [.row (k-1) 1 o]
def Rl (a b o:List Nat)(k s:Nat)(t:FV):St:=(st0 [.d (LD a),.d (LD b),.u,dH k,.d (.v (.int .u64 s)),.d (.v (.int .i64 k)),t] (dI k (LL o)))
theorem Gz (n:Nat)(a b o:List Nat)(k s:Nat)(hk:k<=100000000000)(la:a.length<=100000000000)(lb:b.length<=100000000000)(ha:bF a)(hb:bF b)(ho:o.length=k)(hs:s<4294967296) :
  EX E0 (n+60) R8 (Rl a b o k s .u)=if k<max a.length b.length\/0<s then some (.norm,Rl a b (o++[(s+(aZ a k+aZ b k)) % 4294967296]) (k+1) ((s+(aZ a k+aZ b k)) / 4294967296) .u)
   else some (.exit 0,Rl a b o k s (.d (.v (.bool false)))):=by
 have h1:=fun m=>jd m a la k hk ha
 have h2:=fun m=>jd m b lb k hk hb
 have xa:=bO ha k;have xb:=bO hb k;have rz:(LL a).length=a.length:=by simp[LL]
 have Ak:(LL b).length=b.length:=by simp[LL]
 have hmax:(if a.length<b.length then(b.length:Int) else(a.length:Int))=((max a.length b.length:Nat):Int):=by split<;>omega
 simp only[LD]at h1 h2;have bg:af .i64 ((k:Int)+1)=(k:Int)+1:=wrap_i64 (by omega);generalize aZ a k=x,aZ b k=y at*;have w1:af .u64 ((x:Int)+(y:Int))=(x:Int)+(y:Int):=wrap_u64 (by omega);have w2:af .u64 ((s:Int)+((x:Int)+(y:Int)))=(s:Int)+((x:Int)+(y:Int)):=wrap_u64 (by omega);have w3:af .u32 ((s:Int)+((x:Int)+(y:Int)))=((s:Int)+((x:Int)+(y:Int))) % 4294967296:=df _;have w4:Int.fdiv ((s:Int)+((x:Int)+(y:Int))) 4294967296=((s:Int)+((x:Int)+(y:Int))) / 4294967296:=Int.fdiv_eq_ediv_of_nonneg _ (by omega);have M0:LL (o++[(s+(x+y)) % 4294967296])=LL o++[.v (.int .u32 (((s:Int)+((x:Int)+(y:Int))) % 4294967296))]:=by simp[LL]
 have hol:(LL o).length=k:=by simp[LL,ho]
 have hv1:dH (k+1)=.ls (.loc 0) k 1 0 (k+1):=by simp[dH]
 have Ap:∀ l,dI (k+1) l=[.row k 1 l]:=by intro l;simp[dI]
 have hm1:(k+1)*4<=most:=by simp[most];omega
 have hm2:k+1<=most:=by simp[most];omega
 have htk:(LL o).take k=LL o:=List.take_of_length_le (by omega);have hk1:((k+1:Nat):Int)=(k:Int)+1:=by omega
 have hs1:(((s+(x+y)) / 4294967296:Nat):Int)=((s:Int)+((x:Int)+(y:Int))) / 4294967296:=by omega
 unfold Rl;rw[M0,hv1,Ap,hk1,hs1]
 by_cases hk0:k=0
 ·have hv:dH k=.d (.n 1):=by simp[dH,hk0]
  have hh:∀ l,dI k l=[]:=by intro l;simp[dI,hk0]
  have ho0:o=[]:=List.eq_nil_of_length_eq_zero (by omega);have hLo:LL o=[]:=by rw[ho0];rfl
  have YZ:1*4<=most:=by simp[most]
  have R9:1<=most:=by simp[most]
  have hvk:FV.ls (.loc 0) 0 1 0 1=FV.ls (.loc 0) k 1 0 (k+1):=by rw[hk0]
  have hhk:∀ l,ae.row 0 1 l=ae.row k 1 l:=by intro l;rw[hk0]
  rw[hv,hh,hLo,<-hvk,<-hhk];generalize max a.length b.length=mm at*
  by_cases hc:k<mm
  ·rw[if_pos (.inl hc)];simp -implicitDefEqProofs [IntKind.bits,R8,f228,LD,rz,Ak,hmax,hc,h1,h2,bg,w1,w2,w3,w4,R9,most]
  ·by_cases hs0:0<s
   ·rw[if_pos (.inr hs0)];simp -implicitDefEqProofs [IntKind.bits,R8,f228,LD,rz,Ak,hmax,hc,hs0,h1,h2,bg,w1,w2,w3,w4,R9,most]
   ·rw[if_neg (by omega)];simp -implicitDefEqProofs [IntKind.bits,R8,f228,LD,rz,Ak,hmax,hc,hs0]
 ·have hv:dH k=.ls (.loc 0) (k-1) 1 0 k:=by simp[dH,hk0]
  have hh:∀ l,dI k l=[.row (k-1) 1 l]:=by intro l;simp[dI,hk0]
  have hk2:k-1+1=k:=by omega
  rw[hv,hh];generalize max a.length b.length=mm at*
  by_cases hc:k<mm
  ·rw[if_pos (.inl hc)];simp -implicitDefEqProofs [IntKind.bits,R8,f228,LD,rz,Ak,hmax,hc,h1,h2,bg,w1,w2,w3,w4,hm1,hm2,hol,htk,hk2]
  ·by_cases hs0:0<s
   ·rw[if_pos (.inr hs0)];simp -implicitDefEqProofs [IntKind.bits,R8,f228,LD,rz,Ak,hmax,hc,hs0,h1,h2,bg,w1,w2,w3,w4,hm1,hm2,hol,htk,hk2]
   ·rw[if_neg (by omega)];simp -implicitDefEqProofs [IntKind.bits,R8,f228,LD,rz,Ak,hmax,hc,hs0]
def plI (a b:List Nat)(t:List Nat × Nat × Nat):Prop :=
 t.1.length=t.2.1/\t.2.1<=max a.length b.length+1/\(t.2.1=max a.length b.length+1->t.2.2=0)/\t.2.2<4294967296/\bF t.1 /\
 val t.1+4294967296 ^ t.2.1*(t.2.2+val (a.drop t.2.1)+val (b.drop t.2.1))=val a+val b
theorem A9 {P s x y va vb vo d c:Nat}(h:s+(x+y)=d+4294967296*c) :
  vo+P*d+P*4294967296*(c+va+vb)=vo+P*(s+(x+4294967296*va)+(y+4294967296*vb)):=by grind
theorem Ku (a b:List Nat)(la:a.length<=10000000000)(lb:b.length<=10000000000)(ha:bF a)(hb:bF b) :
  ∃ r,Ex E0 (.loop R8) (Rl a b [] 0 0 .u) r/\∃ o,bF o/\val o=val a+val b/\o.length<=max a.length b.length+1/\r=(.exit 0,Rl a b o o.length 0 (.d (.v (.bool false)))):=by
 refine Ex.inv (S:=fun t:List Nat × Nat × Nat=>Rl a b t.1 t.2.1 t.2.2 .u) (fun t=>max a.length b.length+2-t.2.1) (plI a b) _ ?_ ([],0,0) ?_
 ·rintro⟨o,k,s⟩ ⟨h1,h2,h3,h4,h5,h6⟩;simp only at h1 h2 h3 h4 h5 h6;have hr:=Gz 0 a b o k s (by omega) (by omega) (by omega) ha hb h1 h4;have xa:=bO ha k;have xb:=bO hb k
  by_cases hc:k<max a.length b.length\/0<s
  ·rw[if_pos hc]at hr;have hk:k<max a.length b.length+1:=by
    rcases hc with hc|hc
    ·omega
    ·rcases Nat.lt_or_ge k (max a.length b.length+1) with h|h
     ·exact h
     ·have:=h3 (by omega);omega
   refine .inl ⟨(o++[(s+(aZ a k+aZ b k)) % 4294967296],k+1,(s+(aZ a k+aZ b k)) / 4294967296),Ex.of hr,by simp only;omega,?_,?_,?_,?_,?_,?_⟩
   ·simp[h1]
   ·simp only;omega
   ·intro he;simp only at he ⊢;have e1:aZ a k=0:=by unfold aZ;rw[List.getElem?_eq_none (by omega)];rfl
    have e2:aZ b k=0:=by unfold aZ;rw[List.getElem?_eq_none (by omega)];rfl
    rw[e1,e2];omega
   ·simp only;omega
   ·exact gq h5 (fun x hx=>by simp at hx;subst hx;exact Nat.mod_lt _ (by omega))
   ·simp only;rw[val_append,h1,Nat.pow_succ,<-h6,gU a k,gU b k];have hv:val [(s+(aZ a k+aZ b k)) % 4294967296]=(s+(aZ a k+aZ b k)) % 4294967296:=by simp[val]
    rw[hv];exact A9 (by omega)
  ·rw[if_neg hc]at hr;refine .inr ⟨_,Ex.of hr,(by simp),o,h5,?_,by omega,?_⟩
   ·rw[gu (by omega),gu (by omega)]at h6;have:s=0:=by omega
    subst this;simpa using h6
   ·have:s=0:=by omega
    subst this;rw[h1]
 ·refine⟨rfl,by simp,?_,by simp,?_,?_⟩
  ·simp
  ·intro x hx;cases hx
  ·simp[val]
theorem R_ (a b:List Nat)(la:a.length<=10000000000)(lb:b.length<=10000000000)(ha:bF a)(hb:bF b) :
  Ca E0 U3 [.d (LD a),.d (LD b)] (.d (LD (enc (val a+val b))),none):=by
 obtain⟨r,hl,o,ho,hv,hol,rfl⟩:=Ku a b la lb ha hb;obtain⟨n0,hc⟩:=(gp o (by omega)).get;rw[bN ho,hv]at hc;have hlo:(LL o).length=o.length:=by simp[LL]
 generalize enc (val a+val b)=res at*;refine Ca.body (o:=.ret) (st1:=(st0 [.u,.u,.d (LD res),.u,.u,.u,.u] (if o.length=0 then [] else [.fO (o.length-1) 1 (LL o)]))) rfl (k228:E0.fn _=_) rfl ?_ (by intro id h;cases h) ?_
 ·show Ex E0 (.seq YV (.seq YW (.seq YX (.seq (.seq YY (.block 0 (.loop R8))) plC)))) _ _;refine Ex.seq (st1:=(st0 [.d (LD a),.d (LD b),.u,.u,.u,.u,.u] [])) (Ex.of (n:=40) ?_)
   (Ex.seq (st1:=(st0 [.d (LD a),.d (LD b),.u,.d (.n 1),.u,.u,.u] [])) (Ex.of (n:=40) ?_)
   (Ex.seq (st1:=(st0 [.d (LD a),.d (LD b),.u,.d (.n 1),.d (.v (.int .u64 0)),.u,.u] [])) (Ex.of (n:=40) ?_)
   (Ex.seq (Ex.seq (st1:=Rl a b [] 0 0 .u) (Ex.of (n:=40) ?_) hl.block) (Ex.of (n:=n0+40) ?_))))
  ·simp -implicitDefEqProofs [YV,f228]
  ·simp -implicitDefEqProofs [YW,f228]
  ·simp -implicitDefEqProofs [YX,f228]
  ·simp -implicitDefEqProofs [YY,Rl,dH,dI,f228]
  ·unfold Rl;simp only[LD]at hc ⊢
   by_cases hk0:o.length=0
   ·have hLo:LL o=[]:=List.eq_nil_of_length_eq_zero (by omega);have hv1:dH o.length=.d (.n 1):=by simp[dH,hk0]
    have Ap:∀ l,dI o.length l=[]:=by intro l;simp[dI,hk0]
    rw[if_pos hk0,hv1,Ap];rw[hLo]at hc;clear hl;simp -implicitDefEqProofs [plC,f228,hc]
   ·have htk:(LL o).take o.length=LL o:=List.take_of_length_le (by omega);have hv1:dH o.length=.ls (.loc 0) (o.length-1) 1 0 o.length:=by simp[dH,hk0]
    have Ap:∀ l,dI o.length l=[.row (o.length-1) 1 l]:=by intro l;simp[dI,hk0]
    rw[if_neg hk0,hv1,Ap];clear hl;generalize LL o=es,o.length=k at*;simp -implicitDefEqProofs [ae.view,plC,f228,hlo,htk,hc]
 ·simp -implicitDefEqProofs [f228,LD]
abbrev NA:Nat:=229
abbrev uP:ai:=f229
def Yd:aD:=uP.body.r.r.r.l.r.bl.lp
def NB (a b:List Nat)(es:List D)(n k s:Nat)(t:FV):St:=(st0 [.d (LD a),.d (LD b),.u,.ls (.loc 0) 0 1 0 n,.d (.v (.int .u64 s)),.u,.u,.d (.v (.int .i64 n)),.d (.v (.int .i64 k)),t] [.row 0 1 es])
theorem Kv (n:Nat)(a b:List Nat)(es:List D)(k s:Nat):EX E0 (n+60) Yd (NB a b es k k s .u)=some (.exit 0,NB a b es k k s (.d (.v (.bool false)))):=by
 unfold NB;simp -implicitDefEqProofs [Yd,f229]
theorem Ei (n:Nat)(a b:List Nat)(es:List D)(l k s s' d:Nat)(hk:k<l)(hl:l<=100000000000)(la:a.length<=100000000000)(lb:b.length<=100000000000)(ha:bF a)(hb:bF b)(hs:s<=1)(he:es.length=l)
  (hz:es[k]?=some (.v (.int .u32 0))) (hd:d<4294967296) (hs':s'<=1) (hdig:aZ a k+4294967296*s'=d+aZ b k+s) :
  EX E0 (n+60) Yd (NB a b es l k s .u)=some (.norm,NB a b (es.set k (.v (.int .u32 (d:Int)))) l (k+1) s' .u):=by
 have h1:=fun m=>jd m a la k (by omega) ha
 have h2:=fun m=>jd m b lb k (by omega) hb
 have xa:=bO ha k;have xb:=bO hb k;simp only[LD]at h1 h2;have bg:af .i64 ((k:Int)+1)=(k:Int)+1:=wrap_i64 (by omega);generalize aZ a k=x,aZ b k=y at*;have hk':(k:Int)<(l:Int):=by omega
 have hk1:((k+1:Nat):Int)=(k:Int)+1:=by omega
 have w1:af .u64 (af .u64 ((x:Int)-(y:Int))-(s:Int))=((x:Int)-(y:Int)-(s:Int)) % 18446744073709551616:=by rw[fo,fo];omega
 have w3:af .u32 (((x:Int)-(y:Int)-(s:Int)) % 18446744073709551616)=(d:Int):=by rw[df];omega
 have w4:Int.fdiv (((x:Int)-(y:Int)-(s:Int)) % 18446744073709551616) 9223372036854775808=(s':Int):=by rw[Int.fdiv_eq_ediv_of_nonneg _ (by omega)];omega
 have hz2:=idx hz;unfold NB;rw[hk1];simp -implicitDefEqProofs [IntKind.bits,Yd,f229,LD,hk',h1,h2,bg,w1,w3,w4,hz,hz2]
def miI (a b:List Nat)(t:List Nat × Nat):Prop :=
 t.1.length<=a.length/\t.2<=1/\bF t.1/\bK a t.1.length+4294967296 ^ t.1.length*t.2=val t.1+bK b t.1.length
theorem xL {P x y va vb vo s d s':Nat}(h:va+P*s=vo+vb)(hd:x+4294967296*s'=d+y+s):va+P*x+P*4294967296*s'=vo+P*d+(vb+P*y):=by
 have:P*x+P*4294967296*s'=P*d+P*y+P*s:=by
  rw[Nat.mul_assoc,<-Nat.mul_add,<-Nat.mul_add,<-Nat.mul_add,hd]
 omega
theorem GA (a b:List Nat)(la:a.length<=100000000000)(lb:b.length<=a.length)(ha:bF a)(hb:bF b)(hab:val b<=val a) :
  ∃ r,Ex E0 (.loop Yd) (NB a b (LL (row0 [] a.length)) a.length 0 0 .u) r/\∃ o,bF o/\val o=val a-val b/\o.length=a.length/\r=(.exit 0,NB a b (LL o) a.length a.length 0 (.d (.v (.bool false)))):=by
 refine Ex.inv (S:=fun t:List Nat × Nat=>NB a b (LL (row0 t.1 (a.length-t.1.length))) a.length t.1.length t.2 .u) (fun t=>a.length-t.1.length) (miI a b) _ ?_ ([],0) ?_
 ·rintro⟨o,s⟩ ⟨h1,h2,h3,h4⟩;simp only at h1 h2 h3 h4;have xa:=bO ha o.length;have xb:=bO hb o.length
  by_cases hk:o.length<a.length
  ·obtain⟨m,hm⟩:∃ m,a.length-o.length=m+1:=⟨a.length-o.length-1,by omega⟩
   obtain⟨d,s',hd,hs',hdig⟩:∃ d s',d<4294967296/\s'<=1/\aZ a o.length+4294967296*s'=d+aZ b o.length+s:=by
    by_cases hc:aZ b o.length+s<=aZ a o.length
    ·exact⟨aZ a o.length-(aZ b o.length+s),0,by omega,by omega,by omega⟩
    ·exact⟨aZ a o.length+4294967296-(aZ b o.length+s),1,by omega,by omega,by omega⟩
   have hr:=Ei 0 a b (LL (row0 o (m+1))) a.length o.length s s' d hk la la (by omega) ha hb h2 (by rw[oH];omega) (Jm o m) hd hs' hdig;rw[Ej]at hr;refine .inl ⟨(o++[d],s'),?_,?_,?_,?_,?_,?_⟩
   ·simp only[hm,List.length_append,List.length_cons,List.length_nil];rw[show a.length-(o.length+(0+1))=m by omega];exact Ex.of hr
   ·simp only[List.length_append,List.length_cons,List.length_nil];omega
   ·simp only[List.length_append,List.length_cons,List.length_nil];omega
   ·exact hs'
   ·exact gq h3 (fun x hx=>by simp at hx;subst hx;exact hd)
   ·simp only[List.length_append,List.length_cons,List.length_nil,Nat.zero_add];rw[dL,dL,val_append,Nat.pow_succ];have hv:val [d]=d:=by simp[val]
    rw[hv];exact xL h4 hdig
  ·have he:o.length=a.length:=by omega
   rw[he,eO (Nat.le_refl _),eO lb]at h4;have hlt:=lV h3;rw[he]at hlt;have hs0:s=0:=by
    rcases Nat.lt_or_ge s 1 with h|h
    ·omega
    ·have:s=1:=by omega
     subst this;generalize 4294967296 ^ a.length=p at*;omega
   subst hs0;refine .inr ⟨_,?_,?_,o,h3,by omega,he,rfl⟩
   ·simp only[he,Nat.sub_self,A_];exact Ex.of (Kv 0 a b (LL o) a.length 0)
   ·simp
 ·refine⟨by simp,by simp,?_,?_⟩
  ·intro x hx;cases hx
  ·simp[val,bK]
theorem xM (a b:List Nat)(la:a.length<=100000000000)(lb:b.length<=a.length)(ha:bF a)(hb:bF b)(hab:val b<=val a) :
  Ca E0 NA [.d (LD a),.d (LD b)] (.d (LD (enc (val a-val b))),none):=by
 obtain⟨r,hl,o,ho,hv,hol,rfl⟩:=GA a b la lb ha hb hab;obtain⟨n0,hc⟩:=(gp o (by omega)).get;rw[bN ho,hv]at hc;have hlo:(LL o).length=a.length:=by simp[LL,hol]
 have hla:(LL a).length=a.length:=by simp[LL]
 have htk:(LL o).take a.length=LL o:=List.take_of_length_le (by omega);have hz:=sN a.length;generalize enc (val a-val b)=res at*;refine Ca.body (o:=.ret) (st1:=(st0 [.u,.u,.d (LD res),.u,.u,.u,.u,.u,.u,.u] [.fO 0 1 (LL o)])) rfl (k229:E0.fn _=_) rfl ?_ (by intro id h;cases h) ?_
 ·show Ex E0 (.seq uP.body.l (.seq uP.body.r.l (.seq uP.body.r.r.l (.seq (.seq uP.body.r.r.r.l.l (.block 0 (.loop Yd))) uP.body.r.r.r.r)))) _ _;refine Ex.seq (st1:=(st0 [.d (LD a),.d (LD b),.u,.u,.u,.u,.u,.u,.u,.u] [])) (Ex.of (n:=40) ?_)
   (Ex.seq (st1:=(st0 [.d (LD a),.d (LD b),.u,.ls (.loc 0) 0 1 0 a.length,.u,.u,.u,.u,.u,.u] [.row 0 1 (LL (row0 [] a.length))])) (Ex.of (n:=40) ?_)
   (Ex.seq (st1:=(st0 [.d (LD a),.d (LD b),.u,.ls (.loc 0) 0 1 0 a.length,.d (.v (.int .u64 0)),.u,.u,.u,.u,.u] [.row 0 1 (LL (row0 [] a.length))])) (Ex.of (n:=40) ?_)
   (Ex.seq (Ex.seq (Ex.of (n:=40) ?_) hl.block) (Ex.of (n:=n0+40) ?_))))
  ·simp -implicitDefEqProofs [f229]
  ·have hm1:(a.length:Int)*4<=1099511627776:=by omega
   have hm2:(a.length:Int)<=1099511627776:=by omega
   rw[hz];simp -implicitDefEqProofs [f229,LD,hla,hm1,hm2,most]
  ·simp -implicitDefEqProofs [f229]
  ·unfold NB;simp -implicitDefEqProofs [f229,LD,hla]
  ·unfold NB;simp only[LD]at hc ⊢;clear hl;generalize LL o=es at*;simp -implicitDefEqProofs [ae.view,f229,hlo,htk,hc]
 ·simp -implicitDefEqProofs [f229,LD]
abbrev VQ:Nat:=233
abbrev xN:ai:=f233
theorem NC {r:Nat}(hr:r<4294967296):GD .u64 (r:Int) 32=(r:Int)*4294967296:=by
 rw[w_,<-bP];have h:(2:Int) ^ (min (Int.toNat 32) (IntKind.bits .u64))=4294967296:=by rfl
 rw[h,wrap_u64 (by omega)]
theorem xO {r x:Nat}(hr:r<4294967296)(hx:x<4294967296) :
  GG .u64 ((r:Int)*4294967296) (x:Int)=(r:Int)*4294967296+(x:Int):=by
 rw[uQ,<-bP]
 change af .u64 ((BitVec.ofInt 64 ((r:Int)*4294967296) ||| BitVec.ofInt 64 (x:Int)).toNat:Int)=_
 rw[BitVec.ofInt_natCast];have hs:r <<< 32=r*4294967296:=by rw[Nat.shiftLeft_eq]
 have h0:((r:Int)*(4294967296:Int))=((r <<< 32:Nat):Int):=by rw[hs];omega
 have e1:BitVec.ofInt 64 ((r:Int)*(4294967296:Int))=BitVec.ofNat 64 (r <<< 32):=by
  rw[h0,BitVec.ofInt_natCast]
 have l1:r <<< 32<2 ^ 64:=by rw[hs];omega
 have l2:x<2 ^ 64:=by omega
 have l3:x<2 ^ 32:=by omega
 rw[e1,BitVec.toNat_or,BitVec.toNat_ofNat,BitVec.toNat_ofNat,Nat.mod_eq_of_lt l1,Nat.mod_eq_of_lt l2,<-Nat.shiftLeft_add_eq_or_of_lt l3,hs];rw[wrap_u64 (by omega)];omega
theorem vW {r d x B:Nat}(hr:r<d)(hx:x<B):(r*B+x) / d<B:=by
 rw[Nat.div_lt_iff_lt_mul (by omega)];have h1:=Nat.mul_le_mul_right B hr;rw[Nat.succ_mul]at h1;rw[Nat.mul_comm B d];omega
def Ye:aD:=xN.body.r.r.l.r.bl.lp
def ND (a:List Nat)(es:List D)(d n:Nat)(k:Int)(r:Nat)(t:FV):St:=(st0 [.d (LD a),.d (.v (.int .u32 d)),.u,.u,.ls (.loc 0) 0 1 0 n,.d (.v (.int .u64 r)),.d (.v (.int .i64 k)),t] [.row 0 1 es])
theorem Kw (n:Nat)(a:List Nat)(es:List D)(d l r:Nat):EX E0 (n+60) Ye (ND a es d l (-1) r .u)=some (.exit 0,ND a es d l (-1) r (.d (.v (.bool false)))):=by
 unfold ND;simp -implicitDefEqProofs [Ye,f233]
theorem El (n:Nat)(a:List Nat)(es:List D)(l d k r x:Nat)(hk:k<l)(hl:l<=100000000000)(hx:a[k]?=some x)(hx32:x<4294967296)(hd:d<4294967296)(hr:r<d)(he:es.length=l)
  (hz:es[k]?=some (.v (.int .u32 0))) :
  EX E0 (n+60) Ye (ND a es d l k r .u)=some (.norm,ND a (es.set k (.v (.int .u32 (((r*4294967296+x) / d:Nat):Int)))) d l ((k:Int)-1) ((r*4294967296+x) % d) .u):=by
 have hdec:af .i64 ((k:Int)-1)=(k:Int)-1:=wrap_i64 (by omega);have hk0:(0:Int)<=(k:Int):=by omega
 have hk':k<l:=hk;have hxa:(LL a)[k]?=some (.v (.int .u32 (x:Int))):=by simp[LL,hx]
 have abm:=idx hxa;have hz2:=idx hz;have hla:k<a.length:=(bE hx)
 have hq:(r*4294967296+x) / d<4294967296:=vW hr hx32;have hm:(r*4294967296+x) % d<d:=Nat.mod_lt _ (by omega);have w2:af .u64 (x:Int)=(x:Int):=wrap_u64 (by omega);have w4:af .u64 (d:Int)=(d:Int):=wrap_u64 (by omega);have hd0:¬ ((d:Int)=0):=by omega
 have Sa:¬ d=0:=by omega
 obtain⟨R,hR⟩:∃ R:Nat,R=r*4294967296:=⟨_,rfl⟩
 obtain⟨Y,hY⟩:∃ Y:Nat,Y=r*4294967296+x:=⟨_,rfl⟩
 have w1:GD .u64 (r:Int) 32=(R:Int):=by rw[NC (by omega)];omega
 have w3:GG .u64 (R:Int) (x:Int)=(Y:Int):=by
  have:=xO (r:=r) (x:=x) (by omega) hx32;rw[show(R:Int)=(r:Int)*4294967296 by omega,this];omega
 rw[<-hY]at hq hm ⊢;clear hY hR;have w5:Int.tdiv (Y:Int) (d:Int)=((Y / d:Nat):Int):=by rw[Int.tdiv_eq_ediv_of_nonneg (by omega),Int.natCast_ediv]
 have w6:Int.tmod (Y:Int) (d:Int)=((Y % d:Nat):Int):=by rw[Int.tmod_eq_emod_of_nonneg (by omega),Int.natCast_emod]
 generalize Y / d=qq,Y % d=mm at*;have w7:af .u64 (qq:Int)=(qq:Int):=wrap_u64 (by omega);have w8:af .u32 (qq:Int)=(qq:Int):=wrap_u32 (by omega);unfold ND;simp only[LD];generalize LL a=xs at*;simp -implicitDefEqProofs [IntKind.bits,Ye,f233,hk',hk0,hdec,hxa,abm,hz,hz2,w1,w2,w3,w4,w5,w6,w7,w8,hd0,Sa]
def iX (m:Nat)(q:List Nat):List Nat:=List.replicate m 0++q
theorem Jn (q:List Nat)(m:Nat):(LL (iX (m+1) q))[m]?=some (.v (.int .u32 0)):=by
 simp[LL,iX,List.getElem?_append_left]
theorem Em (q:List Nat)(m v:Nat):(LL (iX (m+1) q)).set m (.v (.int .u32 (v:Int)))=LL (iX m (v::q)):=by
 simp only[LL,iX,List.map_append,List.map_replicate,List.replicate_succ',List.append_assoc];rw[List.set_append_right _ _ (by simp)];simp
theorem oI (q:List Nat)(m:Nat):(LL (iX m q)).length=m+q.length:=by simp[LL,iX]
def smI (a:List Nat)(d:Nat)(t:Nat × List Nat × Nat):Prop :=
 t.1<=a.length/\t.1+t.2.1.length=a.length/\t.2.2<d/\bF t.2.1/\val (a.drop t.1)=val t.2.1*d+t.2.2
theorem GH {B V d r x Y:Nat}(hY:Y=r*B+x):x+B*(V*d+r)=(Y / d+B*V)*d+Y % d:=by
 have:=Nat.div_add_mod Y d;rw[Nat.add_mul];have e:B*(V*d+r)=B*V*d+r*B:=by rw[Nat.mul_add,Nat.mul_assoc,Nat.mul_comm r B]
 rw[e,Nat.mul_comm (Y / d) d];omega
theorem GI (a:List Nat)(d:Nat)(la:a.length<=100000000000)(ha:bF a)(hd:d<4294967296)(hd0:0<d) :
  ∃ r,Ex E0 (.loop Ye) (ND a (LL (iX a.length [])) d a.length ((a.length:Int)-1) 0 .u) r /\
   ∃ q m,bF q/\q.length=a.length/\val q=val a / d/\m=val a % d/\r=(.exit 0,ND a (LL q) d a.length (-1) m (.d (.v (.bool false)))):=by
 refine Ex.inv (S:=fun t:Nat × List Nat × Nat=>ND a (LL (iX t.1 t.2.1)) d a.length ((t.1:Int)-1) t.2.2 .u) (fun t=>t.1) (smI a d) _ ?_ (a.length,[],0) ?_
 ·rintro⟨k,q,r⟩ ⟨h1,h2,h3,h4,h5⟩;simp only at h1 h2 h3 h4 h5;cases k with
  | zero =>
   refine .inr ⟨_,?_,?_,q,r,h4,by omega,?_,?_,rfl⟩
   ·have:=Kw 0 a (LL q) d a.length r;simpa[iX] using Ex.of this
   ·simp
   ·rw[List.drop_zero]at h5;rw[h5,Nat.mul_comm,Nat.mul_add_div hd0,Nat.div_eq_of_lt h3];rfl
   ·rw[List.drop_zero]at h5;rw[h5,Nat.mul_comm,Nat.mul_add_mod,Nat.mod_eq_of_lt h3]
  | succ k =>
   have hx:a[k]?=some (a[k]'(by omega)):=List.getElem?_eq_getElem (by omega);have hx32:a[k]'(by omega)<4294967296:=ha _ (List.getElem_mem _);have hat:aZ a k=a[k]'(by omega):=by simp[aZ,hx]
   generalize a[k]'(by omega)=x at hx hx32 hat;have hr:=El 0 a (LL (iX (k+1) q)) a.length d k r x (by omega) la hx hx32 hd h3 (by rw[oI];omega) (Jn q k);rw[Em]at hr;refine .inl ⟨(k,(r*4294967296+x) / d::q,(r*4294967296+x) % d),?_,by simp,?_,?_,?_,?_,?_⟩
   ·simp only;rw[show(((k+1:Nat):Int)-1)=(k:Int) by omega];exact Ex.of hr
   ·simp only;omega
   ·simp only[List.length_cons];omega
   ·exact Nat.mod_lt _ hd0
   ·intro y hy;rcases List.mem_cons.1 hy with rfl|hy
    ·exact vW h3 hx32
    ·exact h4 y hy
   ·simp only[val];rw[gU,hat,h5];exact GH rfl
 ·refine⟨by simp,by simp,hd0,?_,?_⟩
  ·intro x hx;cases hx
  ·simp[val]
theorem NF (a:List Nat)(d:Nat)(la:a.length<=100000000000)(ha:bF a)(hd:d<4294967296)(hd0:0<d) :
  Ca E0 VQ [.d (LD a),.d (.v (.int .u32 d))] (.d (.t [LD (enc (val a / d)),.v (.int .u32 ((val a % d:Nat):Int))]),none):=by
 obtain⟨r,hl,q,m,hq,VR,hv,hm,rfl⟩:=GI a d la ha hd hd0;obtain⟨n0,hc⟩:=(gp q (by omega)).get;rw[bN hq,hv]at hc;have hlo:(LL q).length=a.length:=by simp[LL,VR]
 have hla:(LL a).length=a.length:=by simp[LL]
 have htk:(LL q).take a.length=LL q:=List.take_of_length_le (by omega);have hz:LL (iX a.length [])=List.replicate a.length (.v (.int .u32 0)):=by simp[LL,iX]
 have hmd:m<4294967296:=by have:=Nat.mod_lt (val a) hd0;omega
 have hw:af .u32 (m:Int)=(m:Int):=wrap_u32 (by omega);rw[<-hm];generalize enc (val a / d)=res at*;refine Ca.body (o:=.ret) (st1:=(st0 [.u,.u,.d (LD res),.d (.v (.int .u32 m)),.u,.u,.u,.u] [.fO 0 1 (LL q)])) rfl (k233:E0.fn _=_) rfl ?_ (by intro id h;cases h) ?_
 ·show Ex E0 (.seq xN.body.l (.seq xN.body.r.l (.seq (.seq xN.body.r.r.l.l (.block 0 (.loop Ye))) xN.body.r.r.r))) _ _;refine Ex.seq (st1:=(st0 [.d (LD a),.d (.v (.int .u32 d)),.u,.u,.u,.u,.u,.u] [])) (Ex.of (n:=40) ?_)
   (Ex.seq (st1:=(st0 [.d (LD a),.d (.v (.int .u32 d)),.u,.u,.ls (.loc 0) 0 1 0 a.length,.d (.v (.int .u64 0)),.u,.u] [.row 0 1 (LL (iX a.length []))])) (Ex.of (n:=40) ?_)
   (Ex.seq (Ex.seq (Ex.of (n:=40) ?_) hl.block) (Ex.of (n:=n0+40) ?_)))
  ·simp -implicitDefEqProofs [f233]
  ·have hm1:(a.length:Int)*4<=1099511627776:=by omega
   have hm2:(a.length:Int)<=1099511627776:=by omega
   rw[hz];simp -implicitDefEqProofs [f233,LD,hla,hm1,hm2,most]
  ·have hdec:af .i64 ((a.length:Int)-1)=(a.length:Int)-1:=wrap_i64 (by omega);unfold ND;simp -implicitDefEqProofs [f233,LD,hla,hdec]
  ·unfold ND;simp only[LD]at hc ⊢;clear hl;generalize LL q=es at*;simp -implicitDefEqProofs [ae.view,f233,hlo,htk,hc,hw]
 ·simp -implicitDefEqProofs [f233,LD,jb]
abbrev NG:Nat:=188
abbrev xP:ai:=f188
theorem xe:∀ (O:List Nat) (m v:Nat),m<O.length->val (O.set m v)+4294967296 ^ m*aZ O m=val O+4294967296 ^ m*v
 | [],m,v,h=>by simp at h
 | y::r,0,v,_=>by simp[val,aZ];omega
 | y::r,m+1,v,h=>by
  have ih:=xe r m v (by simpa using h);rw[List.set_cons_succ,val,val];have:aZ (y::r) (m+1)=aZ r m:=by simp[aZ]
  rw[this,Nat.pow_succ];generalize 4294967296 ^ m=p,aZ r m=q at*;have e1:p*4294967296*q=4294967296*(p*q):=by grind
  have e2:p*4294967296*v=4294967296*(p*v):=by grind
  rw[e1,e2];omega
theorem Cq {O:List Nat}(h:bF O){m v:Nat}(hv:v<4294967296):bF (O.set m v):=by
 intro x hx;rcases List.mem_or_eq_of_mem_set hx with h1|h1
 ·exact h x h1
 ·omega
def Cr:aD:=xP.body.r.r.l.r.bl.lp
def VS:aD:=Cr.r.r.l.bl.r.r.r.bl.lp
def NH (a b O:List Nat)(n i s j:Nat)(t:FV):St:=(st0 [.d (LD a),.d (LD b),.u,.ls (.loc 0) 0 1 0 n,.d (.v (.int .i64 i)),.d (.v (.int .u64 s)),.d (.v (.int .i64 j)),.d (.v (.int .i64 a.length)),.d (.v (.int .i64 i)),.u,t] [.row 0 1 (LL O)])
theorem Ky (n:Nat)(a b O:List Nat)(l i j:Nat)(hj:¬ j<b.length):EX E0 (n+60) VS (NH a b O l i 0 j .u)=some (.exit 2,NH a b O l i 0 j (.d (.v (.bool false)))):=by
 have hlb:(LL b).length=b.length:=by simp[LL]
 unfold NH;simp only[LD];generalize LL b=bs,LL a=as' at*;simp -implicitDefEqProofs [VS,Cr,f188,hlb,hj]
theorem En (n:Nat)(a b O:List Nat)(l i s j T:Nat)(hc:j<b.length\/0<s)(hm:i+j<l)(hl:l<=100000000000)(la:a.length<=100000000000)(lb:b.length<=100000000000)(ha:bF a)(hb:bF b)(hO:bF O)
  (he:O.length=l) (hs:s<4294967296) (hT:T=s+(aZ O (i+j)+aZ a i*aZ b j)) :
  EX E0 (n+60) VS (NH a b O l i s j .u)=some (.norm,NH a b (O.set (i+j) (T % 4294967296)) l i (T / 4294967296) (j+1) .u):=by
 have h1:=fun m=>jd m a la i (by omega) ha
 have h2:=fun m=>jd m b lb j (by omega) hb
 have xa:=bO ha i;have xb:=bO hb j;have xo:=bO hO (i+j);have ho:(LL O)[i+j]?=some (.v (.int .u32 (aZ O (i+j):Int))):=by
  have:O[i+j]?=some (O[i+j]'(by omega)):=List.getElem?_eq_getElem (by omega);simp[LL,aZ,this]
 have hset:LL (O.set (i+j) (T % 4294967296))=(LL O).set (i+j) (.v (.int .u32 ((T % 4294967296:Nat):Int))):=by simp[LL,List.map_set]
 have hlb:(LL b).length=b.length:=by simp[LL]
 simp only[LD]at h1 h2;have bg:af .i64 ((j:Int)+1)=(j:Int)+1:=wrap_i64 (by omega);have hk1:((j+1:Nat):Int)=(j:Int)+1:=by omega
 unfold NH;rw[hset,hk1];generalize aZ a i=x,aZ b j=y,aZ O (i+j)=o at*;have hxy:x*y<=4294967295*4294967295:=Nat.mul_le_mul (by omega) (by omega);have wm:af .i64 ((i:Int)+(j:Int))=((i+j:Nat):Int):=by rw[wrap_i64 (by omega)];omega
 generalize i+j=m at*;obtain⟨P,hP⟩:∃ P:Nat,P=x*y:=⟨_,rfl⟩
 have w1:af .u64 ((x:Int)*(y:Int))=(P:Int):=by rw[<-Int.natCast_mul,<-hP];exact wrap_u64 (by omega)
 rw[<-hP]at hT hxy;have w2:af .u64 (o:Int)=(o:Int):=wrap_u64 (by omega);obtain⟨Q,hQ⟩:∃ Q:Nat,Q=o+P:=⟨_,rfl⟩
 have w3:af .u64 ((o:Int)+(P:Int))=(Q:Int):=by rw[wrap_u64 (by omega)];omega
 have w4:af .u64 ((s:Int)+(Q:Int))=(T:Int):=by rw[wrap_u64 (by omega)];omega
 have w5:af .u32 (T:Int)=((T % 4294967296:Nat):Int):=by rw[df];omega
 have w6:Int.fdiv (T:Int) 4294967296=((T / 4294967296:Nat):Int):=by rw[Int.fdiv_eq_ediv_of_nonneg _ (by omega)];omega
 clear hP hQ hT hxy;generalize T % 4294967296=lo,T / 4294967296=hi at*;have hm0:(0:Int)<=(m:Int):=by omega
 have ho2:=idx ho;simp only[LD];generalize LL b=bs,LL a=as',LL O=es at*
 by_cases hj:j<b.length
 ·simp -implicitDefEqProofs [IntKind.bits,VS,Cr,f188,hlb,hj,h1,h2,bg,wm,hm,hm0,ho,ho2,w1,w2,w3,w4,w5,w6]
 ·have hs0:0<s:=by omega
  simp -implicitDefEqProofs [IntKind.bits,VS,Cr,f188,hlb,hj,hs0,h1,h2,bg,wm,hm,hm0,ho,ho2,w1,w2,w3,w4,w5,w6]
theorem GJ {V V' P o lo hi s xy:Nat}(h1:V'+P*o=V+P*lo)(h2:s+(o+xy)=lo+4294967296*hi):V'+hi*(P*4294967296)=V+s*P+P*xy:=by
 have h3:P*(s+(o+xy))=P*(lo+4294967296*hi):=by rw[h2]
 grind
def tjI (a b:List Nat)(n i:Nat)(t:List Nat × Nat × Nat):Prop :=
 t.1.length=n/\bF t.1/\t.2.1<4294967296/\val t.1+t.2.1*4294967296 ^ (i+t.2.2)=bK a i*val b+4294967296 ^ i*(aZ a i*bK b t.2.2)
theorem xQ {a b:List Nat}{i j:Nat}(hj:b.length<=j):bK a i*val b+4294967296 ^ i*(aZ a i*bK b j)=bK a (i+1)*val b:=by
 rw[eO hj,dL,Nat.add_mul,Nat.mul_assoc]
theorem NI {a b:List Nat}(ha:bF a)(hb:bF b)(i:Nat):bK a (i+1)*val b<4294967296 ^ (i+1+b.length):=by
 have h1:=l8 ha (i+1);have h2:=lV hb;rw[Nat.pow_add];exact Nat.mul_lt_mul_of_lt_of_le h1 (Nat.le_of_lt h2) (Nat.pow_pos (by omega))
theorem GK {a b O:List Nat}{i j s:Nat}(ha:bF a)(hb:bF b)(hj:b.length<=j)
  (h:val O+s*4294967296 ^ (i+j)=bK a i*val b+4294967296 ^ i*(aZ a i*bK b j)) (hs:0<s):j=b.length:=by
 rw[xQ hj]at h;have h1:=NI ha hb i;rcases Nat.lt_or_ge b.length j with h2|h2
 ·exfalso;have h3:4294967296 ^ (i+1+b.length)<=4294967296 ^ (i+j):=Nat.pow_le_pow_right (by omega) (by omega);have h4:4294967296 ^ (i+j)<=s*4294967296 ^ (i+j):=Nat.le_mul_of_pos_left _ hs;omega
 ·omega
theorem Eo (a b O:List Nat)(i:Nat)(hi:i<a.length)(la:a.length<=10000000000)(lb:b.length<=10000000000)(ha:bF a)(hb:bF b)(hO:bF O)(he:O.length=a.length+b.length)(hv:val O=bK a i*val b) :
  ∃ r,Ex E0 (.loop VS) (NH a b O (a.length+b.length) i 0 0 .u) r/\∃ O' j,bF O'/\O'.length=a.length+b.length/\val O'=bK a (i+1)*val b /\
   r=(.exit 2,NH a b O' (a.length+b.length) i 0 j (.d (.v (.bool false)))):=by
 refine Ex.inv (S:=fun t:List Nat × Nat × Nat=>NH a b t.1 (a.length+b.length) i t.2.1 t.2.2 .u) (fun t=>b.length+2-t.2.2) (tjI a b (a.length+b.length) i) _ ?_ (O,0,0) ?_
 ·rintro⟨O,s,j⟩ ⟨h1,h2,h3,h4⟩;simp only at h1 h2 h3 h4
  by_cases hc:j<b.length\/0<s
  ·have hjb:j<=b.length:=by
    rcases Nat.lt_or_ge j b.length with h|h
    ·omega
    ·exact Nat.le_of_eq (GK ha hb h h4 (by omega))
   have hr:=En 0 a b O (a.length+b.length) i s j _ hc (by omega) (by omega) (by omega) (by omega) ha hb h2 h1 h3 rfl;have hset:=xe O (i+j) ((s+(aZ O (i+j)+aZ a i*aZ b j)) % 4294967296) (by omega);have xo:=bO h2 (i+j);have xa:=bO ha i;have xb:=bO hb j;have hxy:aZ a i*aZ b j<=4294967295*4294967295:=Nat.mul_le_mul (by omega) (by omega);have hT:(s+(aZ O (i+j)+aZ a i*aZ b j))=(s+(aZ O (i+j)+aZ a i*aZ b j)) % 4294967296+4294967296*((s+(aZ O (i+j)+aZ a i*aZ b j)) / 4294967296):=by omega
   refine .inl ⟨(O.set (i+j) ((s+(aZ O (i+j)+aZ a i*aZ b j)) % 4294967296),(s+(aZ O (i+j)+aZ a i*aZ b j)) / 4294967296,j+1),Ex.of hr,?_,?_,?_,?_,?_⟩
   ·simp only;omega
   ·simp[h1]
   ·exact Cq h2 (Nat.mod_lt _ (by omega))
   ·simp only;generalize aZ a i*aZ b j=xy at*;omega
   ·simp only;have:=GJ hset hT;rw[show i+(j+1)=(i+j)+1 by omega,Nat.pow_succ,this,h4,dL];rw[Nat.pow_add];generalize 4294967296 ^ i=p;generalize 4294967296 ^ j=q;grind
  ·have hs:s=0:=by omega
   subst hs;have hj:b.length<=j:=by omega
   rw[xQ hj]at h4;refine .inr ⟨_,Ex.of (Ky 0 a b O (a.length+b.length) i j (by omega)),by simp,O,j,h2,h1,by omega,rfl⟩
 ·exact⟨he,hO,by simp,by simp[hv,bK,val]⟩
def Gq (a b O:List Nat)(i:Nat)(t:FV):St:=(st0 [.d (LD a),.d (LD b),.u,.ls (.loc 0) 0 1 0 (a.length+b.length),.u,.u,.u,.d (.v (.int .i64 a.length)),.d (.v (.int .i64 i)),t,.u] [.row 0 1 (LL O)])
theorem Ep (a b:List Nat)(la:a.length<=10000000000)(lb:b.length<=10000000000)(ha:bF a)(hb:bF b) :
  ∃ r,Ex E0 (.loop Cr) (Gq a b (row0 [] (a.length+b.length)) 0 .u) r/\∃ O,bF O/\O.length=a.length+b.length/\val O=val a*val b/\r=(.exit 0,Gq a b O a.length (.d (.v (.bool false)))):=by
 refine Ex.inv (S:=fun t:List Nat × Nat=>Gq a b t.1 t.2 .u) (fun t=>a.length-t.2) (fun t=>t.2<=a.length/\t.1.length=a.length+b.length/\bF t.1/\val t.1=bK a t.2*val b) _ ?_ (row0 [] (a.length+b.length),0) ?_
 ·rintro⟨O,i⟩ ⟨h1,h2,h3,h4⟩;simp only at h1 h2 h3 h4
  by_cases hi:i<a.length
  ·obtain⟨r,hr,O',j,g1,g2,g3,rfl⟩:=Eo a b O i hi la lb ha hb h3 h2 h4;refine .inl ⟨(O',i+1),?_,by simp only;omega,by simp only;omega,g2,g1,g3⟩;have bg:af .i64 ((i:Int)+1)=(i:Int)+1:=wrap_i64 (by omega);have hk1:((i+1:Nat):Int)=(i:Int)+1:=by omega
   show Ex E0 (.seq Cr.l (.seq Cr.r.l (.seq (.block 1 (.seq Cr.r.r.l.bl.l (.seq Cr.r.r.l.bl.r.l (.seq Cr.r.r.l.bl.r.r.l (.block 2 (.loop VS)))))) Cr.r.r.r))) _ _;refine Ex.seq (st1:=Gq a b O i (.d (.v (.bool true)))) (Ex.of (n:=40) ?_) (Ex.seq (st1:=Gq a b O i (.d (.v (.bool true)))) (Ex.of (n:=40) ?_) (Ex.seq (Ex.gy
    (Ex.seq (st1:={Gq a b O i .u with vars:=[.d (LD a),.d (LD b),.u,.ls (.loc 0) 0 1 0 (a.length+b.length),.d (.v (.int .i64 i)),.u,.u,.d (.v (.int .i64 a.length)),.d (.v (.int .i64 i)),.u,.u]}) (Ex.of (n:=40) ?_)
    (Ex.seq (st1:={Gq a b O i .u with vars:=[.d (LD a),.d (LD b),.u,.ls (.loc 0) 0 1 0 (a.length+b.length),.d (.v (.int .i64 i)),.d (.v (.int .u64 0)),.u,.d (.v (.int .i64 a.length)),.d (.v (.int .i64 i)),.u,.u]}) (Ex.of (n:=40) ?_)
    (Ex.seq (Ex.of (n:=40) ?_) hr.block)))) (Ex.of (n:=40) ?_)))
   ·unfold Gq;simp -implicitDefEqProofs [Cr,f188,hi]
   ·unfold Gq;simp -implicitDefEqProofs [Cr,f188]
   ·unfold Gq;simp -implicitDefEqProofs [Cr,f188]
   ·unfold Gq;simp -implicitDefEqProofs [Cr,f188]
   ·unfold Gq NH;simp -implicitDefEqProofs [Cr,f188]
   ·unfold Gq NH;rw[hk1];simp -implicitDefEqProofs [Cr,f188,bg]
  ·have he:i=a.length:=by omega
   subst he;rw[eO (Nat.le_refl _)]at h4;refine .inr ⟨_,Ex.of (n:=60) ?_,?_,O,h3,h2,h4,rfl⟩
   ·unfold Gq;simp -implicitDefEqProofs [Cr,f188]
   ·simp
 ·refine⟨by simp,by simp[row0],?_,?_⟩
  ·intro x hx;simp[row0]at hx;omega
  ·have:∀ m,val (List.replicate m 0)=0:=by
    intro m
    induction m with
    | zero=>rfl
    | succ m ih=>rw[List.replicate_succ,val,ih]
   simp[row0,bK,val,this]
theorem Er (a b:List Nat)(la:a.length<=10000000000)(lb:b.length<=10000000000)(ha:bF a)(hb:bF b) :
  Ca E0 NG [.d (LD a),.d (LD b)] (.d (LD (enc (val a*val b))),none):=by
 obtain⟨r,hl,o,ho,hol,hv,rfl⟩:=Ep a b la lb ha hb;obtain⟨n0,hc⟩:=(gp o (by omega)).get;rw[bN ho,hv]at hc;have hlo:(LL o).length=a.length+b.length:=by simp[LL,hol]
 have hla:(LL a).length=a.length:=by simp[LL]
 have hlb:(LL b).length=b.length:=by simp[LL]
 have htk:(LL o).take (a.length+b.length)=LL o:=List.take_of_length_le (by omega);have hz:=sN (a.length+b.length);generalize enc (val a*val b)=res at*;refine Ca.body (o:=.ret) (st1:=(st0 [.u,.u,.d (LD res),.u,.u,.u,.u,.u,.u,.u,.u] [.fO 0 1 (LL o)])) rfl (k188:E0.fn _=_) rfl ?_ (by intro id h;cases h) ?_
 ·show Ex E0 (.seq xP.body.l (.seq xP.body.r.l (.seq (.seq xP.body.r.r.l.l (.block 0 (.loop Cr))) xP.body.r.r.r))) _ _;refine Ex.seq (st1:=(st0 [.d (LD a),.d (LD b),.u,.u,.u,.u,.u,.u,.u,.u,.u] [])) (Ex.of (n:=40) ?_)
   (Ex.seq (st1:=(st0 [.d (LD a),.d (LD b),.u,.ls (.loc 0) 0 1 0 (a.length+b.length),.u,.u,.u,.u,.u,.u,.u] [.row 0 1 (LL (row0 [] (a.length+b.length)))])) (Ex.of (n:=40) ?_)
   (Ex.seq (Ex.seq (Ex.of (n:=40) ?_) hl.block) (Ex.of (n:=n0+40) ?_)))
  ·simp -implicitDefEqProofs [f188]
  ·have hw:af .i64 ((a.length:Int)+(b.length:Int))=((a.length+b.length:Nat):Int):=by rw[wrap_i64 (by omega)];omega
   have hmb:a.length+b.length<=20000000000:=by omega
   rw[hz];generalize a.length+b.length=m at*;have hm1:(m:Int)*4<=1099511627776:=by omega
   have hm2:(m:Int)<=1099511627776:=by omega
   simp -implicitDefEqProofs [f188,LD,hla,hlb,hw,hm1,hm2,most]
  ·unfold Gq;simp -implicitDefEqProofs [f188,LD,hla]
  ·unfold Gq;simp only[LD]at hc ⊢;clear hl;generalize LL o=es,a.length+b.length=m at*;simp -implicitDefEqProofs [ae.view,f188,hlo,htk,hc]
 ·simp -implicitDefEqProofs [f188,LD]
abbrev U4:Nat:=226
abbrev vX:ai:=f226
abbrev abn:Nat:=183
abbrev VT:ai:=f183
theorem ku {d:Nat}(h0:0<d)(h:d<4294967296):enc d=[d]:=by
 rw[enc,if_neg (by omega),Nat.mod_eq_of_lt h,Nat.div_eq_of_lt h];simp[enc]
theorem bU:enc 0=[]:=by simp[enc]
theorem Es (r:Nat)(h:r<4294967296):trim [r]=enc r:=by
 rw[bN (by intro x hx;simp at hx;omega)];simp[val]
theorem NJ (a:List Nat)(d:Nat)(la:a.length<=100000000000)(ha:bF a)(hd:d<4294967296)(hd0:0<d) :
  Ca E0 U4 [.d (LD a),.d (LD (enc d))] (.d (.t [LD (enc (val a / d)),LD (enc (val a % d))]),none):=by
 obtain⟨n0,hs⟩:=(NF a d la ha hd hd0).any;have hm:val a % d<4294967296:=by have:=Nat.mod_lt (val a) hd0;omega
 obtain⟨n1,hc⟩:=(gp [val a % d] (by simp)).any;replace hs:=hs (n0+n1) (by omega);replace hc:=hc (n0+n1) (by omega);generalize n0+n1=N at*;rw[Es _ hm]at hc;rw[ku hd0 hd];generalize enc (val a / d)=q,val a % d=m at*;generalize enc m=r at*;simp only[LD,LL,List.map_cons,List.map_nil]at hs hc ⊢;refine Ca.a_ (n:=N+60) ?_;rw[ah rfl (k226:E0.fn _=_) rfl];generalize List.map (fun(x:Nat)=>D.v (Value.int IntKind.u32 (x:Int))) a=as' at*;simp -implicitDefEqProofs [f226,jb,hs,hc]
def Yf:aD:=VT.body.r.l.bl.lp
def Al (a b:Nat)(t:FV):St:=(st0 [.d (LD (enc a)),.d (LD (enc b)),.u,.u,t] [])
theorem fu {n k:Nat}(h:n<4294967296 ^ k):(enc n).length<=k:=by
 induction k generalizing n with
 | zero => have : n = 0 := by simp at h;omega
           subst this;simp[bU]
 | succ k ih =>
  rw[enc];split
  ·simp
  ·simp only[List.length_cons];have:=ih (n:=n / 4294967296) (by rw[Nat.pow_succ]at h;omega);omega
theorem Sb (a:Nat):Ex E0 Yf (Al a 0 .u) (.exit 0,Al a 0 (.d (.v (.bool false)))):=by
 refine Ex.of (n:=40) ?_;unfold Al;simp only[bU,LD];generalize LL (enc a)=as';simp -implicitDefEqProofs [Yf,f183,LL]
abbrev Y0:Nat:=267
abbrev Ba:ai:=f267
theorem Kz {x s:Nat}(hx:x<4294967296)(hs:s<32):GD .u64 (x:Int) (s:Int)=((x*2 ^ s:Nat):Int):=by
 have hp:2 ^ s<=2147483648:=by
  have:=Nat.pow_le_pow_right (n:=2) (by omega) (show s<=31 by omega);simpa using this
 have hxs:x*2 ^ s<=4294967295*2147483648:=Nat.mul_le_mul (by omega) hp;rw[w_,<-bP];have h:(2:Int) ^ (min (Int.toNat (s:Int)) (IntKind.bits .u64))=((2 ^ s:Nat):Int):=by
  have:min (Int.toNat (s:Int)) (IntKind.bits .u64)=s:=by simp[IntKind.bits];omega
  rw[this];simp
 rw[h,<-Int.natCast_mul];exact wrap_u64 (by omega)
theorem VU {r x s:Nat}(hr:r<2 ^ s)(hx:x<4294967296)(hs:s<32):GG .u64 (r:Int) ((x*2 ^ s:Nat):Int)=((r+x*2 ^ s:Nat):Int):=by
 have hp:2 ^ s<=2147483648:=by
  have:=Nat.pow_le_pow_right (n:=2) (by omega) (show s<=31 by omega);simpa using this
 have hxs:x*2 ^ s<=4294967295*2147483648:=Nat.mul_le_mul (by omega) hp;rw[uQ,<-bP]
 change af .u64 ((BitVec.ofInt 64 (r:Int) ||| BitVec.ofInt 64 ((x*2 ^ s:Nat):Int)).toNat:Int)=_
 have e:x*2 ^ s=x <<< s:=by rw[Nat.shiftLeft_eq]
 have l1:r<2 ^ 64:=by omega
 have l2:x <<< s<2 ^ 64:=by rw[<-e];omega
 rw[BitVec.ofInt_natCast,BitVec.ofInt_natCast,BitVec.toNat_or,BitVec.toNat_ofNat,BitVec.toNat_ofNat,e,Nat.mod_eq_of_lt l1,Nat.mod_eq_of_lt l2,Nat.or_comm,<-Nat.shiftLeft_add_eq_or_of_lt hr,Nat.add_comm];refine wrap_u64 ?_;rw[<-e];omega
def leB:aD:=Ba.body.r.r.r.l.r.bl.lp
def Sc (a o:List Nat)(k z j r:Nat)(t:FV):St:=(st0 [.u,.d (.v (.int .i64 k)),.u,.ls (.loc 0) j 1 0 (z+j),.d (.v (.int .u64 r)),.u,.d (LD a),.d (.v (.int .i64 a.length)),.d (.v (.int .i64 j)),t] [.row j 1 (LL o)])
theorem GL (a o:List Nat)(k z s j r x:Nat)(hk:k=32*z+s)(hs:s<32)(hz:z<=10000000000)(hx:a[j]?=some x)(hx32:x<4294967296)(la:a.length<=10000000000)(ho:o.length=z+j)(hr:r<2 ^ s) :
  EX E0 60 leB (Sc a o k z j r .u)=some (.norm,Sc a (o++[(r+x*2 ^ s) % 4294967296]) k z (j+1) ((r+x*2 ^ s) / 4294967296) .u):=by
 have hj:=(bE hx)
 have hx':(LL a)[j]?=some (.v (.int .u32 (x:Int))):=by simp[LL,hx]
 have hx2:=idx hx';have hp:2 ^ s<=2147483648:=by
  have:=Nat.pow_le_pow_right (n:=2) (by omega) (show s<=31 by omega);simpa using this
 have hxs:x*2 ^ s<=4294967295*2147483648:=Nat.mul_le_mul (by omega) hp;have w1:af .u64 (x:Int)=(x:Int):=wrap_u64 (by omega);have w2:Int.tmod (k:Int) 32=(s:Int):=by rw[Int.tmod_eq_emod_of_nonneg (by omega)];omega
 have w3:=Kz hx32 hs;have w4:=VU hr hx32 hs;have hT:∃ T:Nat,T=r+x*2 ^ s:=⟨_,rfl⟩
 obtain⟨T,hT⟩:=hT;rw[<-hT]at w4 ⊢;have hTb:T<18446744073709551616:=by omega
 have hP:∃ P:Nat,P=x*2 ^ s:=⟨_,rfl⟩
 obtain⟨P,hP⟩:=hP;rw[<-hP]at w3 w4;have w5:af .u32 (T:Int)=((T % 4294967296:Nat):Int):=by rw[df];omega
 have w6:Int.fdiv (T:Int) 4294967296=((T / 4294967296:Nat):Int):=by rw[Int.fdiv_eq_ediv_of_nonneg _ (by omega)];omega
 have bg:af .i64 ((j:Int)+1)=(j:Int)+1:=wrap_i64 (by omega);have hk1:((j+1:Nat):Int)=(j:Int)+1:=by omega
 have hj0:(0:Int)<=(j:Int):=by omega
 have hs0:¬ ((s:Int)<0):=by omega
 have hol:(LL o).length=z+j:=by simp[LL,ho]
 have htk:(LL o).take (z+j)=LL o:=List.take_of_length_le (by omega);have hm1:(z+j+1)*4<=most:=by simp[most];omega
 have hm2:z+j+1<=most:=by simp[most];omega
 have M0:LL (o++[T % 4294967296])=LL o++[.v (.int .u32 ((T % 4294967296:Nat):Int))]:=by simp[LL]
 clear hT hP hxs hp hTb;generalize T % 4294967296=lo,T / 4294967296=hi at*;unfold Sc;rw[M0,hk1,<-Nat.add_assoc];simp only[LD];generalize LL a=xs,LL o=es,z+j=m at*;simp -implicitDefEqProofs [IntKind.bits,leB,f267,hj,hj0,hx',hx2,bg,hs0,w1,w2,w3,w4,w5,w6,hol,htk,hm1,hm2]
theorem left_step {V r Q x T W E:Nat}(h:V+r*Q=E*W)(hT:T=r+x):V+Q*(T % 4294967296)+T / 4294967296*(Q*4294967296)=E*W+Q*x:=by
 have h1:Q*(T % 4294967296)+T / 4294967296*(Q*4294967296)=Q*T:=by
  have:=Nat.mod_add_div T 4294967296;generalize T % 4294967296=a,T / 4294967296=b at*;subst this;grind
 have h2:Q*T=Q*r+Q*x:=by rw[hT,Nat.mul_add]
 have h3:Q*r=r*Q:=Nat.mul_comm _ _;omega
theorem KA (m:Nat):val (List.replicate m 0)=0:=by
 induction m with
 | zero=>rfl
 | succ m ih=>rw[List.replicate_succ,val,ih]
theorem KC (a:List Nat)(k z s:Nat)(hk:k=32*z+s)(hs:s<32)(hz:z<=10000000000)(la:a.length<=10000000000)(ha:bF a) :
  ∃ r,Ex E0 (.loop leB) (Sc a (List.replicate z 0) k z 0 0 .u) r/\∃ o q,bF o/\o.length=z+a.length/\q<2 ^ s /\
   val o+q*4294967296 ^ (z+a.length)=4294967296 ^ z*2 ^ s*val a/\r=(.exit 0,Sc a o k z a.length q (.d (.v (.bool false)))):=by
 refine Ex.inv (S:=fun t:List Nat × Nat × Nat=>Sc a t.1 k z t.2.1 t.2.2 .u) (fun t=>a.length-t.2.1)
  (fun t=>t.2.1<=a.length/\t.1.length=z+t.2.1/\t.2.2<2 ^ s/\bF t.1/\val t.1+t.2.2*4294967296 ^ (z+t.2.1)=4294967296 ^ z*2 ^ s*bK a t.2.1) _ ?_ (List.replicate z 0,0,0) ?_
 ·rintro⟨o,j,r⟩ ⟨h1,h2,h3,h4,h5⟩;simp only at h1 h2 h3 h4 h5
  by_cases hj:j<a.length
  ·have hx:a[j]?=some (a[j]'hj):=List.getElem?_eq_getElem hj;have hx32:a[j]'hj<4294967296:=ha _ (List.getElem_mem _);have hat:aZ a j=a[j]'hj:=by simp[aZ,hx]
   generalize a[j]'hj=x at hx hx32 hat;have hr:=GL a o k z s j r x hk hs hz hx hx32 la h2 h3;refine .inl ⟨(o++[(r+x*2 ^ s) % 4294967296],j+1,(r+x*2 ^ s) / 4294967296),Ex.of hr,by simp only;omega,by simp only;omega,?_,?_,?_,?_⟩
   ·simp only[List.length_append,List.length_cons,List.length_nil];omega
   ·simp only;rw[Nat.div_lt_iff_lt_mul (by omega)];have h6:x*2 ^ s+2 ^ s<=4294967296*2 ^ s:=by rw[<-Nat.succ_mul];exact Nat.mul_le_mul_right _ hx32
    rw[Nat.mul_comm (2 ^ s) 4294967296];omega
   ·exact gq h4 (fun y hy=>by simp at hy;subst hy;exact Nat.mod_lt _ (by omega))
   ·simp only;rw[val_append,h2,dL,hat,<-Nat.add_assoc,Nat.pow_succ];have hv:val [(r+x*2 ^ s) % 4294967296]=(r+x*2 ^ s) % 4294967296:=by simp[val]
    rw[hv,left_step h5 rfl,Nat.pow_add];generalize 4294967296 ^ z=p;generalize 4294967296 ^ j=q;generalize 2 ^ s=t;grind
  ·have he:j=a.length:=by omega
   subst he;rw[eO (Nat.le_refl _)]at h5;refine .inr ⟨_,Ex.of (n:=60) ?_,?_,o,r,h4,h2,h3,h5,rfl⟩
   ·unfold Sc;simp -implicitDefEqProofs [leB,f267]
   ·simp
 ·refine⟨by simp,by simp,Nat.pow_pos (by omega),?_,?_⟩
  ·intro x hx;have:=List.eq_of_mem_replicate hx;omega
  ·simp[KA,bK,val]
theorem xg (a:List Nat)(k:Nat)(hk:k<=320000000000)(la:a.length<=10000000000)(ha:bF a) :
  Ca E0 Y0 [.d (LD a),.d (.v (.int .i64 k))] (.d (LD (enc (val a*2 ^ k))),none):=by
 obtain⟨z,s,hzs,hs⟩:∃ z s,k=32*z+s/\s<32:=⟨k / 32,k % 32,by omega,by omega⟩
 have hz:z<=10000000000:=by omega
 obtain⟨r,hl,o,q,ho,hol,hq,hv,rfl⟩:=KC a k z s hzs hs hz la ha;have hp:2 ^ s<=2147483648:=by
  have:=Nat.pow_le_pow_right (n:=2) (by omega) (show s<=31 by omega);simpa using this
 have aeu:q<4294967296:=by omega
 have hres:val (o++[q])=val a*2 ^ k:=by
  have e:2 ^ (32*z+s)=4294967296 ^ z*2 ^ s:=by rw[Nat.pow_add,Nat.pow_mul]
  have hv2:val [q]=q:=by simp[val]
  rw[val_append,hol,hzs,e,hv2,Nat.mul_comm _ q,hv,Nat.mul_comm]
 have hlim:bF (o++[q]):=gq ho (fun y hy=>by simp at hy;omega);obtain⟨n0,hc⟩:=(gp (o++[q]) (by simp;omega)).get;rw[bN hlim,hres]at hc;have M0:LL (o++[q])=LL o++[.v (.int .u32 (q:Int))]:=by simp[LL]
 have hlo:(LL o).length=z+a.length:=by simp[LL,hol]
 have hla:(LL a).length=a.length:=by simp[LL]
 have htk:(LL o).take (z+a.length)=LL o:=List.take_of_length_le (by omega);have abo:(LL o++[D.v (.int .u32 (q:Int))]).take (z+a.length+1)=LL o++[.v (.int .u32 (q:Int))]:=List.take_of_length_le (by simp;omega);have hz0:LL (List.replicate z 0)=List.replicate z (.v (.int .u32 0)):=by simp[LL]
 have w5:af .u32 (q:Int)=(q:Int):=wrap_u32 (by omega);have hm1:(z+a.length+1)*4<=most:=by simp[most];omega
 have hm2:z+a.length+1<=most:=by simp[most];omega
 generalize enc (val a*2 ^ k)=res at*;refine Ca.body (o:=.ret) (st1:=(st0 [.u,.u,.d (LD res),.u,.u,.u,.u,.u,.u,.u] ([.fO (a.length+1) 1 (LL (o++[q]))]))) rfl (k267:E0.fn _=_) rfl ?_ (by intro id h;cases h) ?_
 ·show Ex E0 (.seq Ba.body.l (.seq Ba.body.r.l (.seq Ba.body.r.r.l (.seq (.seq Ba.body.r.r.r.l.l (.block 0 (.loop leB))) Ba.body.r.r.r.r)))) _ _;refine Ex.seq (st1:=(st0 [.d (LD a),.d (.v (.int .i64 k)),.u,.u,.u,.u,.u,.u,.u,.u] [])) (Ex.of (n:=40) ?_)
   (Ex.seq (st1:=(st0 [.d (LD a),.d (.v (.int .i64 k)),.u,.ls (.loc 0) 0 1 0 z,.u,.u,.u,.u,.u,.u] [.row 0 1 (LL (List.replicate z 0))])) (Ex.of (n:=40) ?_)
   (Ex.seq (st1:=(st0 [.d (LD a),.d (.v (.int .i64 k)),.u,.ls (.loc 0) 0 1 0 z,.d (.v (.int .u64 0)),.u,.u,.u,.u,.u] [.row 0 1 (LL (List.replicate z 0))])) (Ex.of (n:=40) ?_)
   (Ex.seq (Ex.seq (Ex.of (n:=40) ?_) hl.block) (Ex.of (n:=n0+40) ?_))))
  ·simp -implicitDefEqProofs [f267]
  ·have v1:Int.tdiv (k:Int) 32=(z:Int):=by rw[Int.tdiv_eq_ediv_of_nonneg (by omega)];omega
   have v2:af .i64 (z:Int)=(z:Int):=wrap_i64 (by omega);have v3:af .i64 ((z:Int)+(a.length:Int))=(z:Int)+(a.length:Int):=wrap_i64 (by omega);have v4:af .i64 ((z:Int)+(a.length:Int)+1)=(z:Int)+(a.length:Int)+1:=wrap_i64 (by omega);have v5:(z:Int)<=(z:Int)+(a.length:Int)+1:=by omega
   have v6:((z:Int)+(a.length:Int)+1)*4<=1099511627776:=by omega
   have v7:(z:Int)+(a.length:Int)+1<=1099511627776:=by omega
   rw[hz0];clear hl;simp only[LD];generalize LL a=xs,a.length=m at*;simp -implicitDefEqProofs [f267,hla,v1,v2,v3,v4,v5,v6,v7,most]
  ·simp -implicitDefEqProofs [f267]
  ·unfold Sc;simp -implicitDefEqProofs [f267,LD,hla]
  ·unfold Sc;rw[M0];simp only[LD]at hc ⊢;rw[M0]at hc;clear hl;generalize LL o=es,z+a.length=m at*;simp -implicitDefEqProofs [ae.view,f267,hlo,htk,abo,hm1,hm2,w5,hc]
 ·simp -implicitDefEqProofs [f267,LD]
abbrev VV:Nat:=268
abbrev xR:ai:=f268
def Yg (a:List Nat)(s i:Nat):Nat:=(aZ a i+4294967296*aZ a (i+1)) / 2 ^ s % 4294967296
theorem Et {x y V s:Nat}(hs:s<32)(hx:x<4294967296) :
  (x+4294967296*(y+4294967296*V)) / 2 ^ s=(x+4294967296*y) / 2 ^ s % 4294967296+4294967296*((y+4294967296*V) / 2 ^ s):=by
 have hp:0<2 ^ s:=Nat.pow_pos (by omega);have hq:2 ^ s*2 ^ (32-s)=4294967296:=by rw[<-Nat.pow_add,show s+(32-s)=32 by omega]
 generalize 2 ^ s=p,2 ^ (32-s)=q at*;have h1:=Nat.mod_add_div ((x+4294967296*(y+4294967296*V)) / p) 4294967296;have h2:(x+4294967296*(y+4294967296*V)) / p / 4294967296=(y+4294967296*V) / p:=by
  rw[Nat.div_div_eq_div_mul,Nat.mul_comm p,<-Nat.div_div_eq_div_mul]
  congr 1
  omega
 have h3:(x+4294967296*(y+4294967296*V)) / p=(x+4294967296*y) / p+4294967296*(q*V):=by
  have e:x+4294967296*(y+4294967296*V)=(x+4294967296*y)+p*(4294967296*(q*V)):=by
   have:4294967296*(4294967296*V)=p*(4294967296*(q*V)):=by rw[<-hq];grind
   omega
  rw[e,Nat.add_mul_div_left _ _ hp]
 have h4:(x+4294967296*(y+4294967296*V)) / p % 4294967296=(x+4294967296*y) / p % 4294967296:=by rw[h3,Nat.add_mul_mod_self_left]
 rw[h2,h4]at h1;exact h1.symm
def VW:aD:=xR.body.r.r.l.r.bl.lp
def NK (a o:List Nat)(k i j:Nat)(t:FV):St:=(st0 [.d (LD a),.d (.v (.int .i64 k)),.u,dH j,.d (.v (.int .i64 i)),t] (dI j (LL o)))
theorem KD (a o:List Nat)(k i j:Nat)(hi:¬ i<a.length):EX E0 60 VW (NK a o k i j .u)=some (.exit 0,NK a o k i j (.d (.v (.bool false)))):=by
 have hla:(LL a).length=a.length:=by simp[LL]
 unfold NK;simp only[LD];generalize LL a=xs,dH j=ov,dI j (LL o)=oh at*;simp -implicitDefEqProofs [VW,f268,hla,hi]
theorem Eu (a o:List Nat)(k z s i j:Nat)(hk:k=32*z+s)(hs:s<32)(hz:z<=10000000000)(hi:i<a.length)(la:a.length<=10000000000)(ha:bF a)(ho:o.length=j)(hj:j<=10000000000) :
  EX E0 80 VW (NK a o k i j .u)=some (.norm,NK a (o++[Yg a s i]) k (i+1) (j+1) .u):=by
 have hla:(LL a).length=a.length:=by simp[LL]
 have h1:=fun m=>jd m a (by omega) (i+1) (by omega) ha
 have h2:=fun m=>jd m a (by omega) i (by omega) ha
 have xa:=bO ha i;have xb:=bO ha (i+1);have hk1:((i+1:Nat):Int)=(i:Int)+1:=by omega
 have bg:af .i64 ((i:Int)+1)=(i:Int)+1:=wrap_i64 (by omega);simp only[LD,hk1]at h1 h2;unfold Yg;generalize aZ a i=x,aZ a (i+1)=y at*;have w1:=NC xb;have w2:=xO xb xa;obtain⟨P,hP⟩:∃ P:Nat,(P:Int)=(y:Int)*4294967296:=⟨y*4294967296,by omega⟩
 obtain⟨T,hT⟩:∃ T:Nat,T=x+4294967296*y:=⟨_,rfl⟩
 have hT2:(y:Int)*4294967296+(x:Int)=(T:Int):=by omega
 rw[hT2,<-hP]at w2;rw[<-hP]at w1;rw[<-hT];have w3:Int.fdiv (T:Int) (2 ^ (min s 64))=((T / 2 ^ s:Nat):Int):=by
  rw[show min s 64=s by omega,Int.fdiv_eq_ediv_of_nonneg _ (Int.pow_nonneg (by omega)),Int.natCast_ediv];simp
 have w4:Int.tmod (k:Int) 32=(s:Int):=by rw[Int.tmod_eq_emod_of_nonneg (by omega)];omega
 have hTq:T / 2 ^ s<18446744073709551616:=Nat.lt_of_le_of_lt (Nat.div_le_self _ _) (by omega);generalize T / 2 ^ s=Q at*;have w5:af .u32 (Q:Int)=((Q % 4294967296:Nat):Int):=by rw[df];omega
 have hs0:¬ ((s:Int)<0):=by omega
 have M0:LL (o++[Q % 4294967296])=LL o++[.v (.int .u32 ((Q % 4294967296:Nat):Int))]:=by simp[LL]
 have hol:(LL o).length=j:=by simp[LL,ho]
 have hv1:dH (j+1)=.ls (.loc 0) j 1 0 (j+1):=by simp[dH]
 have Ap:∀ l,dI (j+1) l=[.row j 1 l]:=by intro l;simp[dI]
 have hm1:(j+1)*4<=most:=by simp[most];omega
 have hm2:j+1<=most:=by simp[most];omega
 have htk:(LL o).take j=LL o:=List.take_of_length_le (by omega);clear hP hT hT2 hTq;unfold NK;rw[M0,hv1,Ap,hk1];generalize Q % 4294967296=lo at*
 by_cases hj0:j=0
 ·have hv:dH j=.d (.n 1):=by simp[dH,hj0]
  have hh:∀ l,dI j l=[]:=by intro l;simp[dI,hj0]
  have hLo:LL o=[]:=List.eq_nil_of_length_eq_zero (by omega);have hvk:FV.ls (.loc 0) 0 1 0 1=FV.ls (.loc 0) j 1 0 (j+1):=by rw[hj0]
  have hhk:∀ l,ae.row 0 1 l=ae.row j 1 l:=by intro l;rw[hj0]
  rw[hv,hh,hLo,<-hvk,<-hhk];simp only[LD];generalize LL a=xs at*;simp -implicitDefEqProofs [IntKind.bits,VW,f268,hla,hi,h1,h2,bg,hs0,w1,w2,w3,w4,w5,most]
 ·have hv:dH j=.ls (.loc 0) (j-1) 1 0 j:=by simp[dH,hj0]
  have hh:∀ l,dI j l=[.row (j-1) 1 l]:=by intro l;simp[dI,hj0]
  have hk2:j-1+1=j:=by omega
  rw[hv,hh];simp only[LD];generalize LL a=xs,LL o=es at*;simp -implicitDefEqProofs [IntKind.bits,VW,f268,hla,hi,h1,h2,bg,hs0,w1,w2,w3,w4,w5,hm1,hm2,hol,htk,hk2]
theorem GM (a:List Nat)(k z s:Nat)(hk:k=32*z+s)(hs:s<32)(hz:z<=10000000000)(la:a.length<=10000000000)(ha:bF a) :
  ∃ r,Ex E0 (.loop VW) (NK a [] k z 0 .u) r/\∃ o i,bF o/\o.length<=a.length/\val o=val (a.drop z) / 2 ^ s/\r=(.exit 0,NK a o k i o.length (.d (.v (.bool false)))):=by
 refine Ex.inv (S:=fun t:List Nat × Nat=>NK a t.1 k (z+t.2) t.2 .u) (fun t=>a.length-t.2)
  (fun t=>t.1.length=t.2/\(t.2=0\/z+t.2<=a.length)/\bF t.1/\val t.1+4294967296 ^ t.2*(val (a.drop (z+t.2)) / 2 ^ s)=val (a.drop z) / 2 ^ s) _ ?_ ([],0) ?_
 ·rintro⟨o,j⟩ ⟨h1,h2,h3,h4⟩;simp only at h1 h2 h3 h4
  by_cases hi:z+j<a.length
  ·have hr:=Eu a o k z s (z+j) j hk hs hz hi la ha h1 (by omega);refine .inl ⟨(o++[Yg a s (z+j)],j+1),?_,by simp only;omega,?_,?_,?_,?_⟩
   ·simp only;rw[<-Nat.add_assoc];exact Ex.of hr
   ·simp[h1]
   ·simp only;omega
   ·exact gq h3 (fun y hy=>by simp at hy;subst hy;exact Nat.mod_lt _ (by omega))
   ·simp only;rw[val_append,h1,<-h4,<-Nat.add_assoc,gU a (z+j),gU a (z+j+1),Et hs (bO ha _),Nat.pow_succ];have hv:val [Yg a s (z+j)]=Yg a s (z+j):=by simp[val]
    rw[hv];unfold Yg;rw[Nat.mul_add,Nat.mul_assoc];omega
  ·rw[gu (by omega),Nat.zero_div,Nat.mul_zero,Nat.add_zero]at h4;refine .inr ⟨_,Ex.of (KD a o k (z+j) j hi),by simp,o,z+j,h3,by omega,h4,by rw[h1]⟩
 ·refine⟨rfl,.inl rfl,?_,by simp[val]⟩;intro x hx;cases hx
theorem Ev:∀ (a:List Nat) (z:Nat),bF a->val (a.drop z)=val a / 4294967296 ^ z
 | a,0,_=>by simp
 | [],z+1,_=>by simp[val]
 | x::r,z+1,h=>by
  have hx:=h x (List.mem_cons_self ..);have e:(x+4294967296*val r) / (4294967296 ^ z*4294967296)=(x+4294967296*val r) / 4294967296 / 4294967296 ^ z:=by
   rw[Nat.mul_comm (4294967296 ^ z) 4294967296,Nat.div_div_eq_div_mul]
  have e2:(x+4294967296*val r) / 4294967296=val r:=by omega
  rw[List.drop_succ_cons,Ev r z (fun y hy=>h y (List.mem_cons_of_mem _ hy)),val,Nat.pow_succ,e,e2]
theorem NL (a:List Nat)(k:Nat)(hk:k<=320000000000)(la:a.length<=10000000000)(ha:bF a) :
  Ca E0 VV [.d (LD a),.d (.v (.int .i64 k))] (.d (LD (enc (val a / 2 ^ k))),none):=by
 obtain⟨z,s,hzs,hs⟩:∃ z s,k=32*z+s/\s<32:=⟨k / 32,k % 32,by omega,by omega⟩
 have hz:z<=10000000000:=by omega
 obtain⟨r,hl,o,i,ho,hol,hv,rfl⟩:=GM a k z s hzs hs hz la ha;have hres:val o=val a / 2 ^ k:=by
  rw[hv,Ev a z ha,Nat.div_div_eq_div_mul,hzs,Nat.pow_add,Nat.pow_mul]
 obtain⟨n0,hc⟩:=(gp o (by omega)).get;rw[bN ho,hres]at hc;have hlo:(LL o).length=o.length:=by simp[LL]
 generalize enc (val a / 2 ^ k)=res at*;refine Ca.body (o:=.ret) (st1:=(st0 [.u,.u,.d (LD res),.u,.u,.u] (if o.length=0 then [] else [.fO (o.length-1) 1 (LL o)]))) rfl (k268:E0.fn _=_) rfl ?_ (by intro id h;cases h) ?_
 ·show Ex E0 (.seq xR.body.l (.seq xR.body.r.l (.seq (.seq xR.body.r.r.l.l (.block 0 (.loop VW))) xR.body.r.r.r))) _ _;refine Ex.seq (st1:=(st0 [.d (LD a),.d (.v (.int .i64 k)),.u,.u,.u,.u] [])) (Ex.of (n:=40) ?_)
   (Ex.seq (st1:=(st0 [.d (LD a),.d (.v (.int .i64 k)),.u,.d (.n 1),.u,.u] [])) (Ex.of (n:=40) ?_)
   (Ex.seq (Ex.seq (Ex.of (n:=40) ?_) hl.block) (Ex.of (n:=n0+40) ?_)))
  ·simp -implicitDefEqProofs [f268]
  ·simp -implicitDefEqProofs [f268]
  ·have v1:Int.tdiv (k:Int) 32=(z:Int):=by rw[Int.tdiv_eq_ediv_of_nonneg (by omega)];omega
   have v2:af .i64 (z:Int)=(z:Int):=wrap_i64 (by omega);unfold NK;simp -implicitDefEqProofs [f268,v1,v2,dH,dI]
  ·unfold NK;simp only[LD]at hc ⊢
   by_cases hk0:o.length=0
   ·have hLo:LL o=[]:=List.eq_nil_of_length_eq_zero (by omega);have hv1:dH o.length=.d (.n 1):=by simp[dH,hk0]
    have Ap:∀ l,dI o.length l=[]:=by intro l;simp[dI,hk0]
    rw[if_pos hk0,hv1,Ap];rw[hLo]at hc;clear hl;simp -implicitDefEqProofs [f268,hc]
   ·have htk:(LL o).take o.length=LL o:=List.take_of_length_le (by omega);have hv1:dH o.length=.ls (.loc 0) (o.length-1) 1 0 o.length:=by simp[dH,hk0]
    have Ap:∀ l,dI o.length l=[.row (o.length-1) 1 l]:=by intro l;simp[dI,hk0]
    rw[if_neg hk0,hv1,Ap];clear hl;generalize LL o=es,o.length=m at*;simp -implicitDefEqProofs [ae.view,f268,hlo,htk,hc]
 ·simp -implicitDefEqProofs [f268,LD]
set_option maxRecDepth 100000
abbrev VX:Nat:=303
abbrev abp:ai:=f303
abbrev Y1:Nat:=287
abbrev adG:ai:=f287
abbrev Sg:Nat:=266
abbrev aa6:ai:=f266
def fw (x:Nat):Nat:=if x=0 then 0 else Nat.log2 x+1
def mU:ByteArray:=⟨#[0,1,2,2,3,3,3,3,4,4,4,4,4,4,4,4,5,5,5,5,5,5,5,5,5,5,5,5,5,5,5,5,6,6,6,6,6,6,6,6,6,6,6,6,6,6,6,6,6,6,6,6,6,6,6,6,6,6,6,6,6,6,6,6,7,7,7,7,7,7,7,7,7,7,7,7,7,7,7,7,7,7,7,7,7,7,7,7,7,7,7,7,7,7,7,7,7,7,7,7,7,7,7,7,7,7,7,7,7,7,7,7,7,7,7,7,7,7,7,7,7,7,7,7,7,7,7,7,8,8,8,8,8,8,8,8,8,8,8,8,8,8,8,8,8,8,8,8,8,8,8,8,8,8,8,8,8,8,8,8,8,8,8,8,8,8,8,8,8,8,8,8,8,8,8,8,8,8,8,8,8,8,8,8,8,8,8,8,8,8,8,8,8,8,8,8,8,8,8,8,8,8,8,8,8,8,8,8,8,8,8,8,8,8,8,8,8,8,8,8,8,8,8,8,8,8,8,8,8,8,8,8,8,8,8,8,8,8,8,8,8,8,8,8,8,8,8,8,8,8,8,8,8,8,8,8]⟩
def Ew (t:ByteArray):ai:={np:=1,nv:=4,ref:=false,res:=[.var 1],body:=(.seq (.region [⟨false,none,.bM (.c (.v (.int .i64 0)))⟩] [(1,0)] []) (.seq (.seq (.region [⟨false,none,.bM (.var 0)⟩,⟨false,none,.bin .geq (.loc 0) (.c (.v (.int .u32 65536)))⟩] [(2,1)] []) (.cond (.var 2) (.seq (.seq (.region [⟨false,none,.bM (.var 0)⟩,⟨false,none,.bin .shr (.loc 0) (.c (.v (.int .u64 16)))⟩,⟨false,none,.bM (.loc 1)⟩] [(0,2)] []) (.kill [1,2])) (.region [⟨false,none,.bM (.c (.v (.int .i64 16)))⟩] [(1,0)] [])) .skip)) (.seq (.seq (.seq (.region [⟨false,none,.bM (.var 0)⟩,⟨false,none,.bin .geq (.loc 0) (.c (.v (.int .u32 256)))⟩] [(3,1)] []) (.kill [2])) (.cond (.var 3) (.seq (.seq (.region [⟨false,none,.bM (.var 0)⟩,⟨false,none,.bin .shr (.loc 0) (.c (.v (.int .u64 8)))⟩,⟨false,none,.bM (.loc 1)⟩] [(0,2)] []) (.kill [3])) (.region [⟨false,none,.bM (.var 1)⟩,⟨false,none,.bin .add (.loc 0) (.c (.v (.int .i64 8)))⟩,⟨false,none,.bM (.loc 1)⟩] [(1,2)] [])) .skip)) (.seq (.seq (.region [⟨false,none,.bM (.var 1)⟩,⟨false,none,.bM (.var 0)⟩,⟨false,none,.conv .u8 (.loc 1)⟩,⟨false,none,.oJ (.c (.v (.string t))) (.loc 2)⟩,⟨false,none,.conv .i64 (.loc 3)⟩,⟨false,none,.bin .add (.loc 0) (.loc 4)⟩,⟨false,none,.bM (.loc 5)⟩] [(1,6)] []) (.kill [0,3])) .ret))))}
theorem Si:f303=Ew mU:=rfl
theorem Sj:((List.range 256).all fun i=>match mU[i]? with|some b=>Nat.beq b.toNat (fw i)|none=>false)=true:=by kernel_rfl
theorem Sk {i:Nat}(h:i<256):∃ b:UInt8,mU[i]?=some b/\b.toNat=fw i:=by
 have:=VY Sj h;cases hb:mU[i]? with
 | none=>rw[hb]at this;cases this
 | some b=>rw[hb]at this;exact⟨b,rfl,Nat.eq_of_beq_eq_true this⟩
theorem rA {x s:Nat}(h:2 ^ s<=x):fw x=fw (x / 2 ^ s)+s:=by
 have hp:0<2 ^ s:=Nat.pow_pos (by omega);have h1:0<x / 2 ^ s:=Nat.div_pos h hp;unfold fw;rw[if_neg (by omega),if_neg (by omega)];have h2:Nat.log2 x=Nat.log2 (x / 2 ^ s)+s:=by
  rw[Nat.log2_eq_iff (by omega)];have a1:=Nat.log2_self_le (n:=x / 2 ^ s) (by omega);have a2:=Nat.lt_log2_self (n:=x / 2 ^ s);constructor
  ·rw[Nat.pow_add];exact Nat.le_trans (Nat.mul_le_mul_right _ a1) (Nat.div_mul_le_self x (2 ^ s))
  ·rw[show Nat.log2 (x / 2 ^ s)+s+1=(Nat.log2 (x / 2 ^ s)+1)+s by omega,Nat.pow_add];exact(Nat.div_lt_iff_lt_mul hp).1 a2
 omega
theorem kr {E:Env}{st:St}{rec:Nat->List FV->List ae->bz}{env:List FV}{draw:Bool}{x i:Arg}:RK E rec draw st env (.oJ x i)=runK E rec draw st env (.oJ x i):=bS ..
theorem wrap_u8 {z:Int}(h:0<=z/\z<256):af .u8 z=z:=by
 rw[bP];simp only[IntKind.wrap,IntKind.bits,IntKind.signed];simp;omega
theorem xh {x:Nat}(h:x<4294967296):fw x<=32:=by
 unfold fw;split
 ·omega
 ·have:=(Nat.log2_lt (n:=x) (k:=32) (by omega)).2 (by omega);omega
theorem KE (n x:Nat)(hx:x<4294967296):CL E0 (n+40) VX [.d (.v (.int .u32 x))] []=some (.d (.v (.int .i64 (fw x))),none):=by
 rw[ah rfl ((k303:E0.fn _=_).trans (congrArg some Si)) rfl];have fin:∀ (y m:Nat),y<256->m<=24->fw x=fw y+m->∃ b:UInt8,mU[y]?=some b/\af .u8 (y:Int)=(y:Int)/\af .i64 ((b.toNat:Nat):Int)=((b.toNat:Nat):Int) /\
   af .i64 ((m:Int)+((b.toNat:Nat):Int))=(fw x:Int):=by
  intro y m hy hm he;obtain⟨b,h1,h2⟩:=Sk hy;have hb:=b.toNat_lt;exact⟨b,h1,wrap_u8 (by omega),wrap_i64 (by omega),by rw[wrap_i64 (by omega)];omega⟩
 by_cases hA:65536<=x
 ·have hA':(65536:Int)<=(x:Int):=by omega
  have w1:Int.fdiv (x:Int) 65536=((x / 65536:Nat):Int):=by rw[Int.fdiv_eq_ediv_of_nonneg _ (by omega)];omega
  have e1:fw x=fw (x / 65536)+16:=rA (s:=16) (by omega);have hx1:x / 65536<65536:=by omega
  generalize x / 65536=x1 at*
  by_cases hB:256<=x1
  ·have hB':(256:Int)<=(x1:Int):=by omega
   have w2:Int.fdiv (x1:Int) 256=((x1 / 256:Nat):Int):=by rw[Int.fdiv_eq_ediv_of_nonneg _ (by omega)];omega
   have e2:fw x1=fw (x1 / 256)+8:=rA (s:=8) (by omega);have hx2:x1 / 256<256:=by omega
   generalize x1 / 256=x2 at*;obtain⟨b,f1,f2,f3,f4⟩:=fin x2 24 hx2 (by omega) (by omega);have w3:af .i64 24=24:=wrap_i64 (by omega);have hp:(0:Int)<=(x2:Int):=by omega
   generalize mU=tb at*;simp -implicitDefEqProofs [kr,IntKind.bits,Ew,hA,hA',hB,hB',w1,w2,w3,f1,f2,f3,f4,hp];simpa using f4
  ·have hB':¬ (256:Int)<=(x1:Int):=by omega
   obtain⟨b,f1,f2,f3,f4⟩:=fin x1 16 (by omega) (by omega) (by omega);have hp:(0:Int)<=(x1:Int):=by omega
   generalize mU=tb at*;simp -implicitDefEqProofs [kr,IntKind.bits,Ew,hA,hA',hB,hB',w1,f1,f2,f3,f4,hp];simpa using f4
 ·have hA':¬ (65536:Int)<=(x:Int):=by omega
  by_cases hB:256<=x
  ·have hB':(256:Int)<=(x:Int):=by omega
   have w2:Int.fdiv (x:Int) 256=((x / 256:Nat):Int):=by rw[Int.fdiv_eq_ediv_of_nonneg _ (by omega)];omega
   have e2:fw x=fw (x / 256)+8:=rA (s:=8) (by omega);have hx2:x / 256<256:=by omega
   generalize x / 256=x2 at*;obtain⟨b,f1,f2,f3,f4⟩:=fin x2 8 hx2 (by omega) (by omega);have w3:af .i64 8=8:=wrap_i64 (by omega);have hp:(0:Int)<=(x2:Int):=by omega
   generalize mU=tb at*;simp -implicitDefEqProofs [kr,IntKind.bits,Ew,hA,hA',hB,hB',w2,w3,f1,f2,f3,f4,hp];simpa using f4
  ·have hB':¬ (256:Int)<=(x:Int):=by omega
   obtain⟨b,f1,f2,f3,f4⟩:=fin x 0 (by omega) (by omega) (by omega);have hp:(0:Int)<=(x:Int):=by omega
   generalize mU=tb at*;simp -implicitDefEqProofs [kr,IntKind.bits,Ew,hA,hA',hB,hB',f1,f2,f3,f4,hp];simpa[f3] using f4
theorem NM (n x:Nat)(hx:x<4294967296):CL E0 (n+80) Y1 [.d (.v (.int .u32 x))] []=some (.d (.v (.int .i64 ((32-fw x:Nat):Int))),none):=by
 have t:=fun m=>KE m x hx
 have hb:=xh hx;have w:af .i64 (32-(fw x:Int))=((32-fw x:Nat):Int):=by rw[wrap_i64 (by omega)];omega
 rw[ah rfl (k287:E0.fn _=_) rfl];generalize fw x=bl at*;generalize 32-bl=r at*;simp -implicitDefEqProofs [f287,t,w]
theorem GN (n:Nat)(b:List Nat)(x:Nat)(hx:x<4294967296)(hl:b.length<=10000000000) :
  CL E0 (n+120) Sg [.d (LD (b++[x]))] []=some (.d (.v (.int .i64 ((32*b.length+fw x:Nat):Int))),none):=by
 have t:=fun m=>NM m x hx
 have hb:=xh hx;have hlen:(LL (b++[x])).length=b.length+1:=by simp[LL]
 have hget:(LL (b++[x]))[b.length]?=some (.v (.int .u32 (x:Int))):=by simp[LL]
 have hb0:(((b.length:Int)+1)==0)=false:=by simp;omega
 have w1:af .i64 (b.length:Int)=(b.length:Int):=wrap_i64 (by omega);have w2:af .i64 (32*((b.length:Int)+1))=32*((b.length:Int)+1):=wrap_i64 (by omega);have w3:af .i64 (32*((b.length:Int)+1)-((32-fw x:Nat):Int))=((32*b.length+fw x:Nat):Int):=by rw[wrap_i64 (by omega)];omega
 rw[ah rfl (k266:E0.fn _=_) rfl];generalize 32*b.length+fw x=res,32-fw x=r at*;simp only[LD];generalize LL (b++[x])=es at*;have xK:=idx hget;generalize b.length=m at*;simp -implicitDefEqProofs [f266,hlen,hget,xK,hb0,w1,w2,w3,t]
end Fi.S
