import Derived.Test.YtkekcmgkpdkieaaGreatDoorSEnv
import Derived.Test.YtkekcmgkpdkieaaGreatDoorFiG
set_option linter.unusedVariables false
set_option linter.unusedSimpArgs false
noncomputable section
namespace Fi.S
open Go Fi
set_option maxHeartbeats 8000000
attribute [simp] st0 XD abe XE XF abf XG Si Pq Sj Ps abg XH abh XI abj abk Sk aeB abl abm XJ Sl Sn Sq Sr Su Sw Sy abn abo XK XL abp Sz aeC abq abr XM SA SB SC SE Pt abt SF XN XO abu XP dn XQ EF Pv lI runK Ba nM FV.target dA fG fU dY D.cells FV.cells FV.one D.one uB St.push St.heap St.bf Bb splice qX g_ aeD aeE aeF aeG aeH ahv aeI aeJ aeK aeL aeM aeN aeO aeP aeQ aeR unV jg mG kL finish lL F9 fV leaves ym leave1 jV SG Bc fZ jZ oneOf aK FV.rows FV.ni D.norm D.dw scalar D.isV FV.shift FV.jk ae.shift kS uJ elems aG.l aG.r aG.bl aG.lp
abbrev nAt:Nat:=225
abbrev fAt:ai:=f225
abbrev abv:Nat:=231
abbrev K8:ai:=f231
abbrev XR:Nat:=180
abbrev ag':ai:=f180
theorem j4 (n:Nat)(l:List Nat)(hl:l.length<=1000000000)(i:Nat)(hi:i<=1000000000)(hb:∀ x ∈ l,x<4294967296) :
  CL E0 (n+30) nAt [.d (LD l),.d (.v (.int .i64 i))] []=some (.d (.v (.int .u64 (bF l i))),none):=by
 rw[av rfl (k225:E0.fn _=_) rfl]
 by_cases h:i<l.length
 ·have h1:((i:Int)<(l.length:Int)):=by omega
  have hx:l[i]?=some l[i]:=Qa0 h;have hw:ah .u64 (l[i]:Int)=(l[i]:Int):=wrap_u64 (by have:=hb l[i] (Qi2 h);omega);have ha:bF l i=l[i]:=by simp[bF,hx]
  simp -implicitDefEqProofs[f225,LD,LL,h1,hx,hw,ha]
 ·have h1:¬ ((i:Int)<(l.length:Int)):=by omega
  have ha:bF l i=0:=by simp[bF,Qn2 (Nat.le_of_not_lt h)]
  simp -implicitDefEqProofs[f225,LD,LL,h1,ha]
def Xm (l:List Nat):St:=(st0 [.d (LD l),.u,.u] [])
def clR (l:List Nat):Out × St:=(.exit 0,(st0 [.d (LD (trim l)),.u,.d (.v (.bool false))] []))
def clB:aG:=match K8.body with
 | .seq _ (.seq (.block _ (.loop b)) _)=>b
 | _=>.skip
theorem F_ (n:Nat):EX E0 (n+40) clB (Xm [])=some (clR []):=by
 simp -implicitDefEqProofs[clB,Xm,clR,f231,LD,LL,trim]
theorem Im (n:Nat)(b:List Nat)(x:Nat)(hl:b.length<=1000000000) :
  EX E0 (n+40) clB (Xm (b++[x]))=if x=0 then some (.norm,Xm b) else some (clR (b++[x])):=by
 have hlen:(LL (b++[x])).length=b.length+1:=by simp[LL]
 have hget:(LL (b++[x]))[b.length]?=some (.v (.int .u32 (x:Int))):=by simp[LL]
 have htake:(LL (b++[x])).take b.length=LL b:=by simp[LL]
 have hpos:(0:Int)<(b.length:Int)+1:=by omega
 have hw:ah .i64 (b.length:Int)=(b.length:Int):=wrap_i64 omK
 by_cases h:x=0
 ·subst h;unfold Xm LD;generalize LL (b++[0])=es at hlen hget htake;have Be:=idx hget;have hh:((b.length:Int)<=(b.length:Int)+1):=by omega
  simp -implicitDefEqProofs[clB,f231,hlen,hget,Be,htake,hpos,hw,hh,kT,Ii]
 ·have hx:((x:Int)==0)=false:=by simpa using h
  rw[if_neg h];unfold clR;rw[tN b x h];unfold Xm LD;generalize LL (b++[x])=es at hlen hget htake;have Be:=idx hget;simp -implicitDefEqProofs[clB,f231,hlen,hget,Be,hpos,hw,hx]
theorem K9 (l:List Nat)(hl:l.length<=1000000000):Ex E0 (.loop clB) (Xm l) (clR l):=by
 have:=Ex.while (E:=E0) (b:=clB) (fun a:{l:List Nat // l.length<=1000000000}=>Xm a.1) (fun a=>a.1.length) (fun a=>clR a.1) ?_ ⟨l,hl⟩
 ·exact this
 ·rintro⟨l,hl⟩;rcases Xa1 l with rfl|⟨b,x,rfl⟩
  ·exact .inr ⟨Ex.of (F_ 0),by intro h;cases h⟩
  ·have hb:b.length<=1000000000:=by simp at hl;omega
   have hr:=Im 0 b x hb;rw[<-Q32]at hr
   by_cases h:x=0
   ·subst h;rw[if_pos rfl]at hr;refine .inl ⟨⟨b,hb⟩,Ex.of hr,by simp,?_⟩;simp only[clR,Q32,tO]
   ·rw[if_neg h]at hr;exact .inr ⟨Ex.of hr,by intro h;cases h⟩
def clA:aG:=match K8.body with
 | .seq a _=>a
 | _=>.skip
def clC:aG:=match K8.body with
 | .seq _ (.seq _ c)=>c
 | _=>.skip
theorem iC (l:List Nat)(hl:l.length<=1000000000):Ca E0 abv [.d (LD l)] (.d (LD (trim l)),none):=by
 refine Ca.body (o:=.ret) (st1:=(st0 [.u,.d (LD (trim l)),.u] [])) rfl (k231:E0.fn _=_) rfl ?_ (by intro id h;cases h) ?_
 ·show Ex E0 (.seq clA (.seq (.block 0 (.loop clB)) clC)) _ _;refine Ex.seq (st1:=Xm l) (Ex.of (n:=40) ?_) (Ex.seq ((K9 l hl).block) (Ex.of (n:=40) ?_))
  ·simp -implicitDefEqProofs[clA,Xm,f231]
  ·simp -implicitDefEqProofs[clC,f231]
 ·simp -implicitDefEqProofs[f231,LD]
abbrev abx:Nat:=181
abbrev XT:ai:=f181
def Ga (a b:List Nat):Nat->Int
 | 0=>0
 | k+1=>if bF a k=bF b k then Ga a b k else if bF a k<bF b k then -1 else 1
def cmS (a b:List Nat)(i:Int):St:=(st0 [.d (LD a),.d (LD b),.u,.d (.v (.int .i64 i)),.u,.u,.u,.u] [])
def SH (a b:List Nat):Nat->Out × St
 | 0=>(.exit 0,(st0 [.d (LD a),.d (LD b),.u,.d (.v (.int .i64 (-1))),.u,.u,.d (.v (.bool false)),.u] []))
 | k+1=>if bF a k=bF b k then SH a b k else(.ret,(st0 [.u,.u,.d (.v (.int .i64 (if bF a k<bF b k then -1 else 1))),.u,.u,.u,.u,.u] []))
def XU:aG:=match XT.body with
 | .seq _ (.seq (.seq _ (.block _ (.loop b))) _)=>b
 | _=>.skip
def cmA:aG:=match XT.body with
 | .seq a _=>a
 | _=>.skip
def XV:aG:=match XT.body with
 | .seq _ (.seq (.seq a (.block _ (.loop _))) _)=>a
 | _=>.skip
def cmC:aG:=match XT.body with
 | .seq _ (.seq (.seq _ (.block _ (.loop _))) c)=>c
 | _=>.skip
theorem di {l:List Nat}(h:bV l)(i:Nat):bF l i<4294967296:=by
 unfold bF;cases hx:l[i]? with
 | none=>simp
 | some x=>exact h x (Qa2 hx)
theorem K_ (n:Nat)(a b:List Nat):EX E0 (n+60) XU (cmS a b (-1))=some (SH a b 0):=by
 simp -implicitDefEqProofs[XU,cmS,SH,f181]
theorem Pw (n:Nat)(a b:List Nat)(k:Nat)(hk:k<=1000000000)(la:a.length<=1000000000)(lb:b.length<=1000000000)(ha:bV a)(hb:bV b) :
  EX E0 (n+60) XU (cmS a b k)=if bF a k=bF b k then some (.norm,cmS a b ((k:Int)-1)) else some (SH a b (k+1)):=by
 have h1:=fun m=>j4 m a la k hk ha
 have h2:=fun m=>j4 m b lb k hk hb
 have xa:=di ha k;have xb:=di hb k;have hdec:ah .i64 ((k:Int)-1)=(k:Int)-1:=wrap_i64 omK;have hk0:(0:Int)<=(k:Int):=by omega
 unfold SH cmS;simp only[LD]at h1 h2 ⊢;generalize bF a k=x,bF b k=y at*
 by_cases hxy:x=y
 ·subst hxy;simp -implicitDefEqProofs[XU,f181,h1,h2,hdec,hk0]
 ·have hne:((x:Int) != (y:Int))=true:=by simp;omega
  rw[if_neg hxy,if_neg hxy]
  by_cases hlt:x<y
  ·have hs:ah .u64 ((x:Int)-(y:Int))=18446744073709551616+(x:Int)-(y:Int):=by rw[f_];omega
   have hd:Int.fdiv (18446744073709551616+(x:Int)-(y:Int)) 9223372036854775808=1:=by rw[Qm1 _ omK];omega
   have w1:ah .i64 1=1:=wrap_i64 omK;have w2:ah .i64 2=2:=wrap_i64 omK;have w3:ah .i64 (-1)=-1:=wrap_i64 omK;simp -implicitDefEqProofs[IntKind.bits,XU,f181,h1,h2,hk0,hne,hs,hd,hlt,w1,w2,w3]
  ·have hs:ah .u64 ((x:Int)-(y:Int))=(x:Int)-(y:Int):=wrap_u64 omK;have hd:Int.fdiv ((x:Int)-(y:Int)) 9223372036854775808=0:=by rw[Qm1 _ omK];omega
   have w1:ah .i64 1=1:=wrap_i64 omK;have w0:ah .i64 0=0:=wrap_i64 omK;simp -implicitDefEqProofs[IntKind.bits,XU,f181,h1,h2,hk0,hne,hs,hd,hlt,w1,w0]
theorem yn (a b:List Nat):∀ k,(SH a b k=(.exit 0,(st0 [.d (LD a),.d (LD b),.u,.d (.v (.int .i64 (-1))),.u,.u,.d (.v (.bool false)),.u] []))/\Ga a b k=0) \/
  SH a b k=(.ret,(st0 [.u,.u,.d (.v (.int .i64 (Ga a b k))),.u,.u,.u,.u,.u] []))
 | 0=>.inl ⟨rfl,rfl⟩
 | k+1=>by
  unfold SH Ga
  by_cases h:bF a k=bF b k
  ·rw[if_pos h,if_pos h];exact yn a b k
  ·rw[if_neg h,if_neg h];exact .inr rfl
theorem aby (a b:List Nat)(k:Nat):(SH a b k).1≠.norm:=by
 rcases yn a b k with ⟨h,_⟩|h<;>rw[h]<;>intro h<;>cases h
theorem Io (a b:List Nat)(la:a.length<=1000000000)(lb:b.length<=1000000000)(ha:bV a)(hb:bV b):∀ (k:Nat),k<=1000000001->Ex E0 (.loop XU) (cmS a b ((k:Int)-1)) (SH a b k)
 | 0,_=>Ex.out (Ex.of (n:=60) (K_ 0 a b)) (by intro h;cases h)
 | k+1,hk=>by
  have hr:=Pw 0 a b k omK la lb ha hb;rw[show(((k+1:Nat):Int)-1)=(k:Int) by omega]
  by_cases h:bF a k=bF b k
  ·rw[if_pos h]at hr;have:=Io a b la lb ha hb k omK;unfold SH;rw[if_pos h];exact Ex.next (Ex.of hr) this
  ·rw[if_neg h]at hr;exact Ex.leave (Ex.of hr) (aby a b (k+1))
theorem XW (a b:List Nat)(la:a.length<=1000000000)(lb:b.length<=1000000000)(ha:bV a)(hb:bV b) :
  Ca E0 abx [.d (LD a),.d (LD b)] (.d (.v (.int .i64 (Ga a b (max a.length b.length)))),none):=by
 have hl:=Io a b la lb ha hb (max a.length b.length) omK;have hA:Ex E0 cmA (st0 [.d (LD a),.d (LD b),.u,.u,.u,.u,.u,.u] []) (.norm,(st0 [.d (LD a),.d (LD b),.u,.u,.u,.u,.u,.u] [])) :=
  Ex.of (n:=40) (by simp -implicitDefEqProofs[cmA,f181])
 have hmax:(if a.length<b.length then(b.length:Int) else(a.length:Int))=((max a.length b.length:Nat):Int):=by split<;>omega
 have hw:ah .i64 (((max a.length b.length:Nat):Int)-1)=((max a.length b.length:Nat):Int)-1:=wrap_i64 omK;have uY:(LL a).length=a.length:=by simp[LL]
 have Ef:(LL b).length=b.length:=by simp[LL]
 have hA2:Ex E0 XV (st0 [.d (LD a),.d (LD b),.u,.u,.u,.u,.u,.u] []) (.norm,cmS a b (((max a.length b.length:Nat):Int)-1)):=by
  refine Ex.of (n:=40) ?_;unfold cmS LD;generalize max a.length b.length=mm at*;simp -implicitDefEqProofs[XV,f181,uY,Ef,hmax,hw]
 rcases yn a b (max a.length b.length) with ⟨h,h0⟩|h
 ·rw[h]at hl;rw[h0];refine Ca.body (o:=.ret) (st1:=(st0 [.u,.u,.d (.v (.int .i64 0)),.u,.u,.u,.u,.u] [])) rfl (k181:E0.fn _=_) rfl ?_ (by intro id h;cases h) ?_
  ·show Ex E0 (.seq cmA (.seq (.seq XV (.block 0 (.loop XU))) cmC)) _ _;refine hA.seq ((hA2.seq hl.block).seq (Ex.of (n:=40) ?_));simp -implicitDefEqProofs[cmC,f181]
  ·simp -implicitDefEqProofs[f181]
 ·rw[h]at hl;refine Ca.body (o:=.ret) (st1:=(st0 [.u,.u,.d (.v (.int .i64 (Ga a b (max a.length b.length)))),.u,.u,.u,.u,.u] [])) rfl (k181:E0.fn _=_) rfl ?_ (by intro id h;cases h) ?_
  ·show Ex E0 (.seq cmA (.seq (.seq XV (.block 0 (.loop XU))) cmC)) _ _;refine hA.seq (Ex.dG (hA2.seq hl.b_))
  ·simp -implicitDefEqProofs[f181]
def dO (x y:Nat):Int:=if x<y then -1 else if x=y then 0 else 1
theorem Ip {a b:List Nat}(ha:bV a)(hb:bV b):∀ k,Ga a b k=dO (bY a k) (bY b k)
 | 0=>by simp[Ga,dO,bY,val]
 | k+1=>by
  rw[Ga,Ip ha hb k,dZ,dZ];have h1:=nV ha k;have h2:=nV hb k;unfold dO
  by_cases h:bF a k=bF b k
  ·rw[if_pos h,h];generalize 4294967296 ^ k*bF b k=p
   by_cases h3:bY a k<bY b k
   ·rw[if_pos h3,if_pos omK]
   ·by_cases h4:bY a k=bY b k
    ·rw[if_neg h3,if_pos h4,if_neg omK,if_pos omK]
    ·rw[if_neg h3,if_neg h4,if_neg omK,if_neg omK]
  ·rw[if_neg h]
   by_cases h3:bF a k<bF b k
   ·have:=jE (vb:=bY b k) h1 h3;rw[if_pos h3];generalize 4294967296 ^ k*bF a k=p,4294967296 ^ k*bF b k=q at*;rw[if_pos this]
   ·have:=jE (vb:=bY a k) h2 (show bF b k<bF a k by omega);rw[if_neg h3];generalize 4294967296 ^ k*bF a k=p,4294967296 ^ k*bF b k=q at*;rw[if_neg omK,if_neg omK]
theorem yo (a b:List Nat)(la:a.length<=1000000000)(lb:b.length<=1000000000)(ha:bV a)(hb:bV b) :
  Ca E0 abx [.d (LD a),.d (LD b)] (.d (.v (.int .i64 (dO (val a) (val b)))),none):=by
 have h:=XW a b la lb ha hb;rw[Ip ha hb,fH omK,fH omK]at h;exact h
abbrev aaA:Nat:=228
abbrev EG:ai:=f228
def XX:aG:=match EG.body with
 | .seq _ (.seq _ (.seq _ (.seq (.seq _ (.block _ (.loop b))) _)))=>b
 | _=>.skip
def aeS:aG:=match EG.body with
 | .seq a _=>a
 | _=>.skip
def aeT:aG:=match EG.body with
 | .seq _ (.seq a _)=>a
 | _=>.skip
def aeU:aG:=match EG.body with
 | .seq _ (.seq _ (.seq a _))=>a
 | _=>.skip
def aeV:aG:=match EG.body with
 | .seq _ (.seq _ (.seq _ (.seq (.seq a (.block _ (.loop _))) _)))=>a
 | _=>.skip
def plC:aG:=match EG.body with
 | .seq _ (.seq _ (.seq _ (.seq (.seq _ (.block _ (.loop _))) c)))=>c
 | _=>.skip
def dS (k:Nat):FV:=if k=0 then .d (.n 1) else .ls (.loc 0) (k-1) 1 0 k
def dU (k:Nat)(o:List D):List ae:=if k=0 then [] else [.row (k-1) 1 o]
def Xn (a b o:List Nat)(k s:Nat)(t:FV):St:=(st0 [.d (LD a),.d (LD b),.u,dS k,.d (.v (.int .u64 s)),.d (.v (.int .i64 k)),t] (dU k (LL o)))
theorem La (n:Nat)(a b o:List Nat)(k s:Nat)(hk:k<=1000000000)(la:a.length<=1000000000)(lb:b.length<=1000000000)(ha:bV a)(hb:bV b)(ho:o.length=k)(hs:s<4294967296) :
  EX E0 (n+60) XX (Xn a b o k s .u)=if k<max a.length b.length\/0<s then some (.norm,Xn a b (o++[(s+(bF a k+bF b k)) % 4294967296]) (k+1) ((s+(bF a k+bF b k)) / 4294967296) .u)
   else some (.exit 0,Xn a b o k s (.d (.v (.bool false)))):=by
 have h1:=fun m=>j4 m a la k hk ha
 have h2:=fun m=>j4 m b lb k hk hb
 have xa:=di ha k;have xb:=di hb k;have uY:(LL a).length=a.length:=by simp[LL]
 have Ef:(LL b).length=b.length:=by simp[LL]
 have hmax:(if a.length<b.length then(b.length:Int) else(a.length:Int))=((max a.length b.length:Nat):Int):=by split<;>omega
 simp only[LD]at h1 h2;have bz:ah .i64 ((k:Int)+1)=(k:Int)+1:=wrap_i64 omK;generalize bF a k=x,bF b k=y at*;have w1:ah .u64 ((x:Int)+(y:Int))=(x:Int)+(y:Int):=wrap_u64 omK;have w2:ah .u64 ((s:Int)+((x:Int)+(y:Int)))=(s:Int)+((x:Int)+(y:Int)):=wrap_u64 omK;have w3:ah .u32 ((s:Int)+((x:Int)+(y:Int)))=((s:Int)+((x:Int)+(y:Int))) % 4294967296:=dH _;have w4:Int.fdiv ((s:Int)+((x:Int)+(y:Int))) 4294967296=((s:Int)+((x:Int)+(y:Int))) / 4294967296:=Qm1 _ omK;have RY:LL (o++[(s+(x+y)) % 4294967296])=LL o++[.v (.int .u32 (((s:Int)+((x:Int)+(y:Int))) % 4294967296))]:=by simp[LL]
 have hol:(LL o).length=k:=by simp[LL,ho]
 have hv1:dS (k+1)=.ls (.loc 0) k 1 0 (k+1):=by simp[dS]
 have Ei:∀ l,dU (k+1) l=[.row k 1 l]:=by intro l;simp[dU]
 have hm1:(k+1)*4<=most:=by simp[most];omega
 have hm2:k+1<=most:=by simp[most];omega
 have htk:(LL o).take k=LL o:=Qg0 omK;have hk1:((k+1:Nat):Int)=(k:Int)+1:=by omega
 have hs1:(((s+(x+y)) / 4294967296:Nat):Int)=((s:Int)+((x:Int)+(y:Int))) / 4294967296:=by omega
 unfold Xn;rw[RY,hv1,Ei,hk1,hs1]
 by_cases hk0:k=0
 ·have hv:dS k=.d (.n 1):=by simp[dS,hk0]
  have hh:∀ l,dU k l=[]:=by intro l;simp[dU,hk0]
  have ho0:o=[]:=Qo0 omK;have hLo:LL o=[]:=by rw[ho0];rfl
  have hm3:1*4<=most:=by simp[most]
  have hm4:1<=most:=by simp[most]
  have hvk:FV.ls (.loc 0) 0 1 0 1=FV.ls (.loc 0) k 1 0 (k+1):=by rw[hk0]
  have hhk:∀ l,ae.row 0 1 l=ae.row k 1 l:=by intro l;rw[hk0]
  rw[hv,hh,hLo,<-hvk,<-hhk];generalize max a.length b.length=mm at*
  by_cases hc:k<mm
  ·rw[if_pos (.inl hc)];simp -implicitDefEqProofs[IntKind.bits,XX,f228,LD,uY,Ef,hmax,hc,h1,h2,bz,w1,w2,w3,w4,hm4,most]
  ·by_cases hs0:0<s
   ·rw[if_pos (.inr hs0)];simp -implicitDefEqProofs[IntKind.bits,XX,f228,LD,uY,Ef,hmax,hc,hs0,h1,h2,bz,w1,w2,w3,w4,hm4,most]
   ·rw[if_neg omK];simp -implicitDefEqProofs[IntKind.bits,XX,f228,LD,uY,Ef,hmax,hc,hs0]
 ·have hv:dS k=.ls (.loc 0) (k-1) 1 0 k:=by simp[dS,hk0]
  have hh:∀ l,dU k l=[.row (k-1) 1 l]:=by intro l;simp[dU,hk0]
  have hk2:k-1+1=k:=by omega
  rw[hv,hh];generalize max a.length b.length=mm at*
  by_cases hc:k<mm
  ·rw[if_pos (.inl hc)];simp -implicitDefEqProofs[IntKind.bits,XX,f228,LD,uY,Ef,hmax,hc,h1,h2,bz,w1,w2,w3,w4,hm1,hm2,hol,htk,hk2]
  ·by_cases hs0:0<s
   ·rw[if_pos (.inr hs0)];simp -implicitDefEqProofs[IntKind.bits,XX,f228,LD,uY,Ef,hmax,hc,hs0,h1,h2,bz,w1,w2,w3,w4,hm1,hm2,hol,htk,hk2]
   ·rw[if_neg omK];simp -implicitDefEqProofs[IntKind.bits,XX,f228,LD,uY,Ef,hmax,hc,hs0]
def plI (a b:List Nat)(t:List Nat × Nat × Nat):Prop :=
 t.1.length=t.2.1/\t.2.1<=max a.length b.length+1/\(t.2.1=max a.length b.length+1->t.2.2=0)/\t.2.2<4294967296/\bV t.1 /\
 val t.1+4294967296 ^ t.2.1*(t.2.2+val (a.drop t.2.1)+val (b.drop t.2.1))=val a+val b
theorem EH {P s x y va vb vo d c:Nat}(h:s+(x+y)=d+4294967296*c) :
  vo+P*d+P*4294967296*(c+va+vb)=vo+P*(s+(x+4294967296*va)+(y+4294967296*vb)):=by grind
theorem Px (a b:List Nat)(la:a.length<=100000000)(lb:b.length<=100000000)(ha:bV a)(hb:bV b) :
  ∃ r,Ex E0 (.loop XX) (Xn a b [] 0 0 .u) r/\∃ o,bV o/\val o=val a+val b/\o.length<=max a.length b.length+1/\r=(.exit 0,Xn a b o o.length 0 (.d (.v (.bool false)))):=by
 refine Ex.inv (S:=fun t:List Nat × Nat × Nat=>Xn a b t.1 t.2.1 t.2.2 .u) (fun t=>max a.length b.length+2-t.2.1) (plI a b) _ ?_ ([],0,0) ?_
 ·rintro⟨o,k,s⟩ ⟨h1,h2,h3,h4,h5,h6⟩;simp only at h1 h2 h3 h4 h5 h6;have hr:=La 0 a b o k s omK omK omK ha hb h1 h4;have xa:=di ha k;have xb:=di hb k
  by_cases hc:k<max a.length b.length\/0<s
  ·rw[if_pos hc]at hr;have hk:k<max a.length b.length+1:=by
    rcases hc with hc|hc
    ·omega
    ·rcases Qg1 k (max a.length b.length+1) with h|h
     ·exact h
     ·have:=h3 omK;omega
   refine .inl ⟨(o++[(s+(bF a k+bF b k)) % 4294967296],k+1,(s+(bF a k+bF b k)) / 4294967296),Ex.of hr,by simp only;omega,?_,?_,?_,?_,?_,?_⟩
   ·simp[h1]
   ·simp only;omega
   ·intro he;simp only at he ⊢;have e1:bF a k=0:=by unfold bF;rw[Qn2 omK];rfl
    have e2:bF b k=0:=by unfold bF;rw[Qn2 omK];rfl
    rw[e1,e2];omega
   ·simp only;omega
   ·exact iD h5 (fun x hx=>by simp at hx;subst hx;exact Qv0 _ omK)
   ·simp only;rw[val_append,h1,Ql1,<-h6,iZ a k,iZ b k];have hv:val [(s+(bF a k+bF b k)) % 4294967296]=(s+(bF a k+bF b k)) % 4294967296:=by simp[val]
    rw[hv];exact EH omK
  ·rw[if_neg hc]at hr;refine .inr ⟨_,Ex.of hr,(by simp),o,h5,?_,by omega,?_⟩
   ·rw[iE omK,iE omK]at h6;have:s=0:=by omega
    subst this;simpa using h6
   ·have:s=0:=by omega
    subst this;rw[h1]
 ·refine⟨rfl,by simp,?_,by simp,?_,?_⟩
  ·simp
  ·intro x hx;cases hx
  ·simp[val]
theorem XY (a b:List Nat)(la:a.length<=100000000)(lb:b.length<=100000000)(ha:bV a)(hb:bV b) :
  Ca E0 aaA [.d (LD a),.d (LD b)] (.d (LD (enc (val a+val b))),none):=by
 obtain⟨r,hl,o,ho,hv,hol,rfl⟩:=Px a b la lb ha hb;obtain⟨n0,hc⟩:=(iC o omK).get;rw[df ho,hv]at hc;have hlo:(LL o).length=o.length:=by simp[LL]
 generalize enc (val a+val b)=res at*;refine Ca.body (o:=.ret) (st1:=(st0 [.u,.u,.d (LD res),.u,.u,.u,.u] (if o.length=0 then [] else [.gT (o.length-1) 1 (LL o)]))) rfl (k228:E0.fn _=_) rfl ?_ (by intro id h;cases h) ?_
 ·show Ex E0 (.seq aeS (.seq aeT (.seq aeU (.seq (.seq aeV (.block 0 (.loop XX))) plC)))) _ _;refine Ex.seq (st1:=(st0 [.d (LD a),.d (LD b),.u,.u,.u,.u,.u] [])) (Ex.of (n:=40) ?_)
   (Ex.seq (st1:=(st0 [.d (LD a),.d (LD b),.u,.d (.n 1),.u,.u,.u] [])) (Ex.of (n:=40) ?_)
   (Ex.seq (st1:=(st0 [.d (LD a),.d (LD b),.u,.d (.n 1),.d (.v (.int .u64 0)),.u,.u] [])) (Ex.of (n:=40) ?_)
   (Ex.seq (Ex.seq (st1:=Xn a b [] 0 0 .u) (Ex.of (n:=40) ?_) hl.block) (Ex.of (n:=n0+40) ?_))))
  ·simp -implicitDefEqProofs[aeS,f228]
  ·simp -implicitDefEqProofs[aeT,f228]
  ·simp -implicitDefEqProofs[aeU,f228]
  ·simp -implicitDefEqProofs[aeV,Xn,dS,dU,f228]
  ·unfold Xn;simp only[LD]at hc ⊢
   by_cases hk0:o.length=0
   ·have hLo:LL o=[]:=Qo0 omK;have hv1:dS o.length=.d (.n 1):=by simp[dS,hk0]
    have Ei:∀ l,dU o.length l=[]:=by intro l;simp[dU,hk0]
    rw[if_pos hk0,hv1,Ei];rw[hLo]at hc;clear hl;simp -implicitDefEqProofs[plC,f228,hc]
   ·have htk:(LL o).take o.length=LL o:=Qg0 omK;have hv1:dS o.length=.ls (.loc 0) (o.length-1) 1 0 o.length:=by simp[dS,hk0]
    have Ei:∀ l,dU o.length l=[.row (o.length-1) 1 l]:=by intro l;simp[dU,hk0]
    rw[if_neg hk0,hv1,Ei];clear hl;generalize LL o=es,o.length=k at*;simp -implicitDefEqProofs[ae.view,plC,f228,hlo,htk,hc]
 ·simp -implicitDefEqProofs[f228,LD]
abbrev SI:Nat:=229
abbrev yw:ai:=f229
def miB:aG:=yw.body.r.r.r.l.r.bl.lp
def SK (a b:List Nat)(es:List D)(n k s:Nat)(t:FV):St:=(st0 [.d (LD a),.d (LD b),.u,.ls (.loc 0) 0 1 0 n,.d (.v (.int .u64 s)),.u,.u,.d (.v (.int .i64 n)),.d (.v (.int .i64 k)),t] [.row 0 1 es])
theorem Py (n:Nat)(a b:List Nat)(es:List D)(k s:Nat):EX E0 (n+60) miB (SK a b es k k s .u)=some (.exit 0,SK a b es k k s (.d (.v (.bool false)))):=by
 unfold SK;simp -implicitDefEqProofs[miB,f229]
theorem Iq (n:Nat)(a b:List Nat)(es:List D)(l k s s' d:Nat)(hk:k<l)(hl:l<=1000000000)(la:a.length<=1000000000)(lb:b.length<=1000000000)(ha:bV a)(hb:bV b)(hs:s<=1)(he:es.length=l)
  (hz:es[k]?=some (.v (.int .u32 0))) (hd:d<4294967296) (hs':s'<=1) (hdig:bF a k+4294967296*s'=d+bF b k+s) :
  EX E0 (n+60) miB (SK a b es l k s .u)=some (.norm,SK a b (es.set k (.v (.int .u32 (d:Int)))) l (k+1) s' .u):=by
 have h1:=fun m=>j4 m a la k omK ha
 have h2:=fun m=>j4 m b lb k omK hb
 have xa:=di ha k;have xb:=di hb k;simp only[LD]at h1 h2;have bz:ah .i64 ((k:Int)+1)=(k:Int)+1:=wrap_i64 omK;generalize bF a k=x,bF b k=y at*;have hk':(k:Int)<(l:Int):=by omega
 have hk1:((k+1:Nat):Int)=(k:Int)+1:=by omega
 have w1:ah .u64 (ah .u64 ((x:Int)-(y:Int))-(s:Int))=((x:Int)-(y:Int)-(s:Int)) % 18446744073709551616:=by rw[f_,f_];omega
 have w3:ah .u32 (((x:Int)-(y:Int)-(s:Int)) % 18446744073709551616)=(d:Int):=by rw[dH];omega
 have w4:Int.fdiv (((x:Int)-(y:Int)-(s:Int)) % 18446744073709551616) 9223372036854775808=(s':Int):=by rw[Qm1 _ omK];omega
 have hz2:=idx hz;unfold SK;rw[hk1];simp -implicitDefEqProofs[IntKind.bits,miB,f229,LD,hk',h1,h2,bz,w1,w3,w4,hz,hz2]
def miI (a b:List Nat)(t:List Nat × Nat):Prop :=
 t.1.length<=a.length/\t.2<=1/\bV t.1/\bY a t.1.length+4294967296 ^ t.1.length*t.2=val t.1+bY b t.1.length
theorem Bf {P x y va vb vo s d s':Nat}(h:va+P*s=vo+vb)(hd:x+4294967296*s'=d+y+s):va+P*x+P*4294967296*s'=vo+P*d+(vb+P*y):=by
 have:P*x+P*4294967296*s'=P*d+P*y+P*s:=by
  rw[Q61,<-Xc0,<-Xc0,<-Xc0,hd]
 omega
theorem Lb (a b:List Nat)(la:a.length<=1000000000)(lb:b.length<=a.length)(ha:bV a)(hb:bV b)(hab:val b<=val a) :
  ∃ r,Ex E0 (.loop miB) (SK a b (LL (row0 [] a.length)) a.length 0 0 .u) r/\∃ o,bV o/\val o=val a-val b/\o.length=a.length/\r=(.exit 0,SK a b (LL o) a.length a.length 0 (.d (.v (.bool false)))):=by
 refine Ex.inv (S:=fun t:List Nat × Nat=>SK a b (LL (row0 t.1 (a.length-t.1.length))) a.length t.1.length t.2 .u) (fun t=>a.length-t.1.length) (miI a b) _ ?_ ([],0) ?_
 ·rintro⟨o,s⟩ ⟨h1,h2,h3,h4⟩;simp only at h1 h2 h3 h4;have xa:=di ha o.length;have xb:=di hb o.length
  by_cases hk:o.length<a.length
  ·obtain⟨m,hm⟩:∃ m,a.length-o.length=m+1:=⟨a.length-o.length-1,by omega⟩
   obtain⟨d,s',hd,hs',hdig⟩:∃ d s',d<4294967296/\s'<=1/\bF a o.length+4294967296*s'=d+bF b o.length+s:=by
    by_cases hc:bF b o.length+s<=bF a o.length
    ·exact⟨bF a o.length-(bF b o.length+s),0,by omega,by omega,by omega⟩
    ·exact⟨bF a o.length+4294967296-(bF b o.length+s),1,by omega,by omega,by omega⟩
   have hr:=Iq 0 a b (LL (row0 o (m+1))) a.length o.length s s' d hk la la omK ha hb h2 (by rw[qY];omega) (NT o m) hd hs' hdig;rw[Ir]at hr;refine .inl ⟨(o++[d],s'),?_,?_,?_,?_,?_,?_⟩
   ·simp only[hm,Qb0,Qe2,Qr2];rw[show a.length-(o.length+(0+1))=m by omega];exact Ex.of hr
   ·simp only[Qb0,Qe2,Qr2];omega
   ·simp only[Qb0,Qe2,Qr2];omega
   ·exact hs'
   ·exact iD h3 (fun x hx=>by simp at hx;subst hx;exact hd)
   ·simp only[Qb0,Qe2,Qr2,Qx1];rw[dZ,dZ,val_append,Ql1];have hv:val [d]=d:=by simp[val]
    rw[hv];exact Bf h4 hdig
  ·have he:o.length=a.length:=by omega
   rw[he,fH (Qd1 _),fH lb]at h4;have hlt:=nN h3;rw[he]at hlt;have hs0:s=0:=by
    rcases Qg1 s 1 with h|h
    ·omega
    ·have:s=1:=by omega
     subst this;generalize 4294967296 ^ a.length=p at*;omega
   subst hs0;refine .inr ⟨_,?_,?_,o,h3,by omega,he,rfl⟩
   ·simp only[he,Xq0,EI];exact Ex.of (Py 0 a b (LL o) a.length 0)
   ·simp
 ·refine⟨by simp,by simp,?_,?_⟩
  ·intro x hx;cases hx
  ·simp[val,bY]
theorem Bg (a b:List Nat)(la:a.length<=1000000000)(lb:b.length<=a.length)(ha:bV a)(hb:bV b)(hab:val b<=val a) :
  Ca E0 SI [.d (LD a),.d (LD b)] (.d (LD (enc (val a-val b))),none):=by
 obtain⟨r,hl,o,ho,hv,hol,rfl⟩:=Lb a b la lb ha hb hab;obtain⟨n0,hc⟩:=(iC o omK).get;rw[df ho,hv]at hc;have hlo:(LL o).length=a.length:=by simp[LL,hol]
 have hla:(LL a).length=a.length:=by simp[LL]
 have htk:(LL o).take a.length=LL o:=Qg0 omK;have hz:=wz a.length;generalize enc (val a-val b)=res at*;refine Ca.body (o:=.ret) (st1:=(st0 [.u,.u,.d (LD res),.u,.u,.u,.u,.u,.u,.u] [.gT 0 1 (LL o)])) rfl (k229:E0.fn _=_) rfl ?_ (by intro id h;cases h) ?_
 ·show Ex E0 (.seq yw.body.l (.seq yw.body.r.l (.seq yw.body.r.r.l (.seq (.seq yw.body.r.r.r.l.l (.block 0 (.loop miB))) yw.body.r.r.r.r)))) _ _;refine Ex.seq (st1:=(st0 [.d (LD a),.d (LD b),.u,.u,.u,.u,.u,.u,.u,.u] [])) (Ex.of (n:=40) ?_)
   (Ex.seq (st1:=(st0 [.d (LD a),.d (LD b),.u,.ls (.loc 0) 0 1 0 a.length,.u,.u,.u,.u,.u,.u] [.row 0 1 (LL (row0 [] a.length))])) (Ex.of (n:=40) ?_)
   (Ex.seq (st1:=(st0 [.d (LD a),.d (LD b),.u,.ls (.loc 0) 0 1 0 a.length,.d (.v (.int .u64 0)),.u,.u,.u,.u,.u] [.row 0 1 (LL (row0 [] a.length))])) (Ex.of (n:=40) ?_)
   (Ex.seq (Ex.seq (Ex.of (n:=40) ?_) hl.block) (Ex.of (n:=n0+40) ?_))))
  ·simp -implicitDefEqProofs[f229]
  ·have hm1:(a.length:Int)*4<=1099511627776:=by omega
   have hm2:(a.length:Int)<=1099511627776:=by omega
   rw[hz];simp -implicitDefEqProofs[f229,LD,hla,hm1,hm2,most]
  ·simp -implicitDefEqProofs[f229]
  ·unfold SK;simp -implicitDefEqProofs[f229,LD,hla]
  ·unfold SK;simp only[LD]at hc ⊢;clear hl;generalize LL o=es at*;simp -implicitDefEqProofs[ae.view,f229,hlo,htk,hc]
 ·simp -implicitDefEqProofs[f229,LD]
abbrev abz:Nat:=233
abbrev Bh:ai:=f233
theorem SL {r:Nat}(hr:r<4294967296):Lc .u64 (r:Int) 32=(r:Int)*4294967296:=by
 rw[Ap,<-cK];have h:(2:Int) ^ (min (Int.toNat 32) (IntKind.bits .u64))=4294967296:=by rfl
 rw[h,wrap_u64 omK]
theorem Bi {r x:Nat}(hr:r<4294967296)(hx:x<4294967296) :
  Bj .u64 ((r:Int)*4294967296) (x:Int)=(r:Int)*4294967296+(x:Int):=by
 rw[yx,<-cK]
 change ah .u64 ((BitVec.ofInt 64 ((r:Int)*4294967296) ||| BitVec.ofInt 64 (x:Int)).toNat:Int)=_
 rw[BitVec.ofInt_natCast];have hs:r <<< 32=r*4294967296:=by rw[Nat.shiftLeft_eq]
 have h0:((r:Int)*(4294967296:Int))=((r <<< 32:Nat):Int):=by rw[hs];omega
 have e1:BitVec.ofInt 64 ((r:Int)*(4294967296:Int))=BitVec.ofNat 64 (r <<< 32):=by
  rw[h0,BitVec.ofInt_natCast]
 have l1:r <<< 32<2 ^ 64:=by rw[hs];omega
 have l2:x<2 ^ 64:=by omega
 have l3:x<2 ^ 32:=by omega
 rw[e1,BitVec.toNat_or,BitVec.toNat_ofNat,BitVec.toNat_ofNat,Qw1 l1,Qw1 l2,<-Xo1 l3,hs];rw[wrap_u64 omK];omega
theorem zw {r d x B:Nat}(hr:r<d)(hx:x<B):(r*B+x) / d<B:=by
 rw[Qu1 omK];have h1:=Qe1 B hr;rw[Nat.succ_mul]at h1;rw[Qj2 B d];omega
def smB:aG:=Bh.body.r.r.l.r.bl.lp
def SN (a:List Nat)(es:List D)(d n:Nat)(k:Int)(r:Nat)(t:FV):St:=(st0 [.d (LD a),.d (.v (.int .u32 d)),.u,.u,.ls (.loc 0) 0 1 0 n,.d (.v (.int .u64 r)),.d (.v (.int .i64 k)),t] [.row 0 1 es])
theorem Pz (n:Nat)(a:List Nat)(es:List D)(d l r:Nat):EX E0 (n+60) smB (SN a es d l (-1) r .u)=some (.exit 0,SN a es d l (-1) r (.d (.v (.bool false)))):=by
 unfold SN;simp -implicitDefEqProofs[smB,f233]
theorem Iu (n:Nat)(a:List Nat)(es:List D)(l d k r x:Nat)(hk:k<l)(hl:l<=1000000000)(hx:a[k]?=some x)(hx32:x<4294967296)(hd:d<4294967296)(hr:r<d)(he:es.length=l)
  (hz:es[k]?=some (.v (.int .u32 0))) :
  EX E0 (n+60) smB (SN a es d l k r .u)=some (.norm,SN a (es.set k (.v (.int .u32 (((r*4294967296+x) / d:Nat):Int)))) d l ((k:Int)-1) ((r*4294967296+x) % d) .u):=by
 have hdec:ah .i64 ((k:Int)-1)=(k:Int)-1:=wrap_i64 omK;have hk0:(0:Int)<=(k:Int):=by omega
 have hk':k<l:=hk;have hxa:(LL a)[k]?=some (.v (.int .u32 (x:Int))):=by simp[LL,hx]
 have ahy:=idx hxa;have hz2:=idx hz;have hla:k<a.length:=(bD hx)
 have hq:(r*4294967296+x) / d<4294967296:=zw hr hx32;have hm:(r*4294967296+x) % d<d:=Qv0 _ omK;have w2:ah .u64 (x:Int)=(x:Int):=wrap_u64 omK;have w4:ah .u64 (d:Int)=(d:Int):=wrap_u64 omK;have hd0:¬ ((d:Int)=0):=by omega
 have XZ:¬ d=0:=by omega
 obtain⟨R,hR⟩:∃ R:Nat,R=r*4294967296:=⟨_,rfl⟩
 obtain⟨Y,hY⟩:∃ Y:Nat,Y=r*4294967296+x:=⟨_,rfl⟩
 have w1:Lc .u64 (r:Int) 32=(R:Int):=by rw[SL omK];omega
 have w3:Bj .u64 (R:Int) (x:Int)=(Y:Int):=by
  have:=Bi (r:=r) (x:=x) omK hx32;rw[show(R:Int)=(r:Int)*4294967296 by omega,this];omega
 rw[<-hY]at hq hm ⊢;clear hY hR;have w5:Int.tdiv (Y:Int) (d:Int)=((Y / d:Nat):Int):=by rw[Q62 omK,Xy1]
 have w6:Int.tmod (Y:Int) (d:Int)=((Y % d:Nat):Int):=by rw[Xd1 omK,Int.natCast_emod]
 generalize Y / d=qq,Y % d=mm at*;have w7:ah .u64 (qq:Int)=(qq:Int):=wrap_u64 omK;have w8:ah .u32 (qq:Int)=(qq:Int):=wrap_u32 omK;unfold SN;simp only[LD];generalize LL a=xs at*;simp -implicitDefEqProofs[IntKind.bits,smB,f233,hk',hk0,hdec,hxa,ahy,hz,hz2,w1,w2,w3,w4,w5,w6,w7,w8,hd0,XZ]
def jW (m:Nat)(q:List Nat):List Nat:=List.replicate m 0++q
theorem NU (q:List Nat)(m:Nat):(LL (jW (m+1) q))[m]?=some (.v (.int .u32 0)):=by
 simp[LL,jW,Qa1]
theorem Iw (q:List Nat)(m v:Nat):(LL (jW (m+1) q)).set m (.v (.int .u32 (v:Int)))=LL (jW m (v::q)):=by
 simp only[LL,jW,Qq0,X30,List.replicate_succ',Qo1];rw[Q40 _ _ (by simp)];simp
theorem qZ (q:List Nat)(m:Nat):(LL (jW m q)).length=m+q.length:=by simp[LL,jW]
def smI (a:List Nat)(d:Nat)(t:Nat × List Nat × Nat):Prop :=
 t.1<=a.length/\t.1+t.2.1.length=a.length/\t.2.2<d/\bV t.2.1/\val (a.drop t.1)=val t.2.1*d+t.2.2
theorem Ld {B V d r x Y:Nat}(hY:Y=r*B+x):x+B*(V*d+r)=(Y / d+B*V)*d+Y % d:=by
 have:=Xs0 Y d;rw[Qq1];have e:B*(V*d+r)=B*V*d+r*B:=by rw[Xc0,Q61,Qj2 r B]
 rw[e,Qj2 (Y / d) d];omega
theorem Lf (a:List Nat)(d:Nat)(la:a.length<=1000000000)(ha:bV a)(hd:d<4294967296)(hd0:0<d) :
  ∃ r,Ex E0 (.loop smB) (SN a (LL (jW a.length [])) d a.length ((a.length:Int)-1) 0 .u) r /\
   ∃ q m,bV q/\q.length=a.length/\val q=val a / d/\m=val a % d/\r=(.exit 0,SN a (LL q) d a.length (-1) m (.d (.v (.bool false)))):=by
 refine Ex.inv (S:=fun t:Nat × List Nat × Nat=>SN a (LL (jW t.1 t.2.1)) d a.length ((t.1:Int)-1) t.2.2 .u) (fun t=>t.1) (smI a d) _ ?_ (a.length,[],0) ?_
 ·rintro⟨k,q,r⟩ ⟨h1,h2,h3,h4,h5⟩;simp only at h1 h2 h3 h4 h5;cases k with
  | zero =>
   refine .inr ⟨_,?_,?_,q,r,h4,by omega,?_,?_,rfl⟩
   ·have:=Pz 0 a (LL q) d a.length r;simpa[jW] using Ex.of this
   ·simp
   ·rw[List.drop_zero]at h5;rw[h5,Qj2,Xm0 hd0,Xb0 h3];rfl
   ·rw[List.drop_zero]at h5;rw[h5,Qj2,X00,Qw1 h3]
  | succ k =>
   have hx:a[k]?=some (a[k]'(by omega)):=Qa0 omK;have hx32:a[k]'(by omega)<4294967296:=ha _ (Qi2 _);have hat:bF a k=a[k]'(by omega):=by simp[bF,hx]
   generalize a[k]'(by omega)=x at hx hx32 hat;have hr:=Iu 0 a (LL (jW (k+1) q)) a.length d k r x omK la hx hx32 hd h3 (by rw[qZ];omega) (NU q k);rw[Iw]at hr;refine .inl ⟨(k,(r*4294967296+x) / d::q,(r*4294967296+x) % d),?_,by simp,?_,?_,?_,?_,?_⟩
   ·simp only;rw[show(((k+1:Nat):Int)-1)=(k:Int) by omega];exact Ex.of hr
   ·simp only;omega
   ·simp only[Qe2];omega
   ·exact Qv0 _ hd0
   ·intro y hy;rcases Qi1.1 hy with rfl|hy
    ·exact zw h3 hx32
    ·exact h4 y hy
   ·simp only[val];rw[iZ,hat,h5];exact Ld rfl
 ·refine⟨by simp,by simp,hd0,?_,?_⟩
  ·intro x hx;cases hx
  ·simp[val]
theorem SQ (a:List Nat)(d:Nat)(la:a.length<=1000000000)(ha:bV a)(hd:d<4294967296)(hd0:0<d) :
  Ca E0 abz [.d (LD a),.d (.v (.int .u32 d))] (.d (.t [LD (enc (val a / d)),.v (.int .u32 ((val a % d:Nat):Int))]),none):=by
 obtain⟨r,hl,q,m,hq,hql,hv,hm,rfl⟩:=Lf a d la ha hd hd0;obtain⟨n0,hc⟩:=(iC q omK).get;rw[df hq,hv]at hc;have hlo:(LL q).length=a.length:=by simp[LL,hql]
 have hla:(LL a).length=a.length:=by simp[LL]
 have htk:(LL q).take a.length=LL q:=Qg0 omK;have hz:LL (jW a.length [])=List.replicate a.length (.v (.int .u32 0)):=by simp[LL,jW]
 have hmd:m<4294967296:=by have:=Qv0 (val a) hd0;omega
 have hw:ah .u32 (m:Int)=(m:Int):=wrap_u32 omK;rw[<-hm];generalize enc (val a / d)=res at*;refine Ca.body (o:=.ret) (st1:=(st0 [.u,.u,.d (LD res),.d (.v (.int .u32 m)),.u,.u,.u,.u] [.gT 0 1 (LL q)])) rfl (k233:E0.fn _=_) rfl ?_ (by intro id h;cases h) ?_
 ·show Ex E0 (.seq Bh.body.l (.seq Bh.body.r.l (.seq (.seq Bh.body.r.r.l.l (.block 0 (.loop smB))) Bh.body.r.r.r))) _ _;refine Ex.seq (st1:=(st0 [.d (LD a),.d (.v (.int .u32 d)),.u,.u,.u,.u,.u,.u] [])) (Ex.of (n:=40) ?_)
   (Ex.seq (st1:=(st0 [.d (LD a),.d (.v (.int .u32 d)),.u,.u,.ls (.loc 0) 0 1 0 a.length,.d (.v (.int .u64 0)),.u,.u] [.row 0 1 (LL (jW a.length []))])) (Ex.of (n:=40) ?_)
   (Ex.seq (Ex.seq (Ex.of (n:=40) ?_) hl.block) (Ex.of (n:=n0+40) ?_)))
  ·simp -implicitDefEqProofs[f233]
  ·have hm1:(a.length:Int)*4<=1099511627776:=by omega
   have hm2:(a.length:Int)<=1099511627776:=by omega
   rw[hz];simp -implicitDefEqProofs[f233,LD,hla,hm1,hm2,most]
  ·have hdec:ah .i64 ((a.length:Int)-1)=(a.length:Int)-1:=wrap_i64 omK;unfold SN;simp -implicitDefEqProofs[f233,LD,hla,hdec]
  ·unfold SN;simp only[LD]at hc ⊢;clear hl;generalize LL q=es at*;simp -implicitDefEqProofs[ae.view,f233,hlo,htk,hc,hw]
 ·simp -implicitDefEqProofs[f233,LD,uC]
abbrev SS:Nat:=188
abbrev Bl:ai:=f188
theorem Aq:∀ (O:List Nat) (m v:Nat),m<O.length->val (O.set m v)+4294967296 ^ m*bF O m=val O+4294967296 ^ m*v
 | [],m,v,h=>by simp at h
 | y::r,0,v,_=>by simp[val,bF];omega
 | y::r,m+1,v,h=>by
  have ih:=Aq r m v (by simpa using h);rw[List.set_cons_succ,val,val];have:bF (y::r) (m+1)=bF r m:=by simp[bF]
  rw[this,Ql1];generalize 4294967296 ^ m=p,bF r m=q at*;have e1:p*4294967296*q=4294967296*(p*q):=by grind
  have e2:p*4294967296*v=4294967296*(p*v):=by grind
  rw[e1,e2];omega
theorem Gb {O:List Nat}(h:bV O){m v:Nat}(hv:v<4294967296):bV (O.set m v):=by
 intro x hx;rcases Xj2 hx with h1|h1
 ·exact h x h1
 ·omega
def Gc:aG:=Bl.body.r.r.l.r.bl.lp
def tjB:aG:=Gc.r.r.l.bl.r.r.r.bl.lp
def SV (a b O:List Nat)(n i s j:Nat)(t:FV):St:=(st0 [.d (LD a),.d (LD b),.u,.ls (.loc 0) 0 1 0 n,.d (.v (.int .i64 i)),.d (.v (.int .u64 s)),.d (.v (.int .i64 j)),.d (.v (.int .i64 a.length)),.d (.v (.int .i64 i)),.u,t] [.row 0 1 (LL O)])
theorem PE (n:Nat)(a b O:List Nat)(l i j:Nat)(hj:¬ j<b.length):EX E0 (n+60) tjB (SV a b O l i 0 j .u)=some (.exit 2,SV a b O l i 0 j (.d (.v (.bool false)))):=by
 have hlb:(LL b).length=b.length:=by simp[LL]
 unfold SV;simp only[LD];generalize LL b=bs,LL a=as' at*;simp -implicitDefEqProofs[tjB,Gc,f188,hlb,hj]
theorem Iy (n:Nat)(a b O:List Nat)(l i s j T:Nat)(hc:j<b.length\/0<s)(hm:i+j<l)(hl:l<=1000000000)(la:a.length<=1000000000)(lb:b.length<=1000000000)(ha:bV a)(hb:bV b)(hO:bV O)
  (he:O.length=l) (hs:s<4294967296) (hT:T=s+(bF O (i+j)+bF a i*bF b j)) :
  EX E0 (n+60) tjB (SV a b O l i s j .u)=some (.norm,SV a b (O.set (i+j) (T % 4294967296)) l i (T / 4294967296) (j+1) .u):=by
 have h1:=fun m=>j4 m a la i omK ha
 have h2:=fun m=>j4 m b lb j omK hb
 have xa:=di ha i;have xb:=di hb j;have xo:=di hO (i+j);have ho:(LL O)[i+j]?=some (.v (.int .u32 (bF O (i+j):Int))):=by
  have:O[i+j]?=some (O[i+j]'(by omega)):=Qa0 omK;simp[LL,bF,this]
 have hset:LL (O.set (i+j) (T % 4294967296))=(LL O).set (i+j) (.v (.int .u32 ((T % 4294967296:Nat):Int))):=by simp[LL,Qz2]
 have hlb:(LL b).length=b.length:=by simp[LL]
 simp only[LD]at h1 h2;have bz:ah .i64 ((j:Int)+1)=(j:Int)+1:=wrap_i64 omK;have hk1:((j+1:Nat):Int)=(j:Int)+1:=by omega
 unfold SV;rw[hset,hk1];generalize bF a i=x,bF b j=y,bF O (i+j)=o at*;have hxy:x*y<=4294967295*4294967295:=Q72 omK omK;have wm:ah .i64 ((i:Int)+(j:Int))=((i+j:Nat):Int):=by rw[wrap_i64 omK];omega
 generalize i+j=m at*;obtain⟨P,hP⟩:∃ P:Nat,P=x*y:=⟨_,rfl⟩
 have w1:ah .u64 ((x:Int)*(y:Int))=(P:Int):=by rw[<-Int.natCast_mul,<-hP];exact wrap_u64 omK
 rw[<-hP]at hT hxy;have w2:ah .u64 (o:Int)=(o:Int):=wrap_u64 omK;obtain⟨Q,hQ⟩:∃ Q:Nat,Q=o+P:=⟨_,rfl⟩
 have w3:ah .u64 ((o:Int)+(P:Int))=(Q:Int):=by rw[wrap_u64 omK];omega
 have w4:ah .u64 ((s:Int)+(Q:Int))=(T:Int):=by rw[wrap_u64 omK];omega
 have w5:ah .u32 (T:Int)=((T % 4294967296:Nat):Int):=by rw[dH];omega
 have w6:Int.fdiv (T:Int) 4294967296=((T / 4294967296:Nat):Int):=by rw[Qm1 _ omK];omega
 clear hP hQ hT hxy;generalize T % 4294967296=lo,T / 4294967296=hi at*;have hm0:(0:Int)<=(m:Int):=by omega
 have ho2:=idx ho;simp only[LD];generalize LL b=bs,LL a=as',LL O=es at*
 by_cases hj:j<b.length
 ·simp -implicitDefEqProofs[IntKind.bits,tjB,Gc,f188,hlb,hj,h1,h2,bz,wm,hm,hm0,ho,ho2,w1,w2,w3,w4,w5,w6]
 ·have hs0:0<s:=by omega
  simp -implicitDefEqProofs[IntKind.bits,tjB,Gc,f188,hlb,hj,hs0,h1,h2,bz,wm,hm,hm0,ho,ho2,w1,w2,w3,w4,w5,w6]
theorem Lg {V V' P o lo hi s xy:Nat}(h1:V'+P*o=V+P*lo)(h2:s+(o+xy)=lo+4294967296*hi):V'+hi*(P*4294967296)=V+s*P+P*xy:=by
 have h3:P*(s+(o+xy))=P*(lo+4294967296*hi):=by rw[h2]
 grind
def tjI (a b:List Nat)(n i:Nat)(t:List Nat × Nat × Nat):Prop :=
 t.1.length=n/\bV t.1/\t.2.1<4294967296/\val t.1+t.2.1*4294967296 ^ (i+t.2.2)=bY a i*val b+4294967296 ^ i*(bF a i*bY b t.2.2)
theorem Bn {a b:List Nat}{i j:Nat}(hj:b.length<=j):bY a i*val b+4294967296 ^ i*(bF a i*bY b j)=bY a (i+1)*val b:=by
 rw[fH hj,dZ,Qq1,Q61]
theorem SX {a b:List Nat}(ha:bV a)(hb:bV b)(i:Nat):bY a (i+1)*val b<4294967296 ^ (i+1+b.length):=by
 have h1:=nV ha (i+1);have h2:=nN hb;rw[Qx0];exact Nat.mul_lt_mul_of_lt_of_le h1 (Nat.le_of_lt h2) (Qq2 omK)
theorem Lh {a b O:List Nat}{i j s:Nat}(ha:bV a)(hb:bV b)(hj:b.length<=j)
  (h:val O+s*4294967296 ^ (i+j)=bY a i*val b+4294967296 ^ i*(bF a i*bY b j)) (hs:0<s):j=b.length:=by
 rw[Bn hj]at h;have h1:=SX ha hb i;rcases Qg1 b.length j with h2|h2
 ·exfalso;have h3:4294967296 ^ (i+1+b.length)<=4294967296 ^ (i+j):=Qt2 omK omK;have h4:4294967296 ^ (i+j)<=s*4294967296 ^ (i+j):=Nat.le_mul_of_pos_left _ hs;omega
 ·omega
theorem Iz (a b O:List Nat)(i:Nat)(hi:i<a.length)(la:a.length<=100000000)(lb:b.length<=100000000)(ha:bV a)(hb:bV b)(hO:bV O)(he:O.length=a.length+b.length)(hv:val O=bY a i*val b) :
  ∃ r,Ex E0 (.loop tjB) (SV a b O (a.length+b.length) i 0 0 .u) r/\∃ O' j,bV O'/\O'.length=a.length+b.length/\val O'=bY a (i+1)*val b /\
   r=(.exit 2,SV a b O' (a.length+b.length) i 0 j (.d (.v (.bool false)))):=by
 refine Ex.inv (S:=fun t:List Nat × Nat × Nat=>SV a b t.1 (a.length+b.length) i t.2.1 t.2.2 .u) (fun t=>b.length+2-t.2.2) (tjI a b (a.length+b.length) i) _ ?_ (O,0,0) ?_
 ·rintro⟨O,s,j⟩ ⟨h1,h2,h3,h4⟩;simp only at h1 h2 h3 h4
  by_cases hc:j<b.length\/0<s
  ·have hjb:j<=b.length:=by
    rcases Qg1 j b.length with h|h
    ·omega
    ·exact Nat.le_of_eq (Lh ha hb h h4 omK)
   have hr:=Iy 0 a b O (a.length+b.length) i s j _ hc omK omK omK omK ha hb h2 h1 h3 rfl;have hset:=Aq O (i+j) ((s+(bF O (i+j)+bF a i*bF b j)) % 4294967296) omK;have xo:=di h2 (i+j);have xa:=di ha i;have xb:=di hb j;have hxy:bF a i*bF b j<=4294967295*4294967295:=Q72 omK omK;have hT:(s+(bF O (i+j)+bF a i*bF b j))=(s+(bF O (i+j)+bF a i*bF b j)) % 4294967296+4294967296*((s+(bF O (i+j)+bF a i*bF b j)) / 4294967296):=by omega
   refine .inl ⟨(O.set (i+j) ((s+(bF O (i+j)+bF a i*bF b j)) % 4294967296),(s+(bF O (i+j)+bF a i*bF b j)) / 4294967296,j+1),Ex.of hr,?_,?_,?_,?_,?_⟩
   ·simp only;omega
   ·simp[h1]
   ·exact Gb h2 (Qv0 _ omK)
   ·simp only;generalize bF a i*bF b j=xy at*;omega
   ·simp only;have:=Lg hset hT;rw[show i+(j+1)=(i+j)+1 by omega,Ql1,this,h4,dZ];rw[Qx0];generalize 4294967296 ^ i=p;generalize 4294967296 ^ j=q;grind
  ·have hs:s=0:=by omega
   subst hs;have hj:b.length<=j:=by omega
   rw[Bn hj]at h4;refine .inr ⟨_,Ex.of (PE 0 a b O (a.length+b.length) i j omK),by simp,O,j,h2,h1,by omega,rfl⟩
 ·exact⟨he,hO,by simp,by simp[hv,bY,val]⟩
def KX (a b O:List Nat)(i:Nat)(t:FV):St:=(st0 [.d (LD a),.d (LD b),.u,.ls (.loc 0) 0 1 0 (a.length+b.length),.u,.u,.u,.d (.v (.int .i64 a.length)),.d (.v (.int .i64 i)),t,.u] [.row 0 1 (LL O)])
theorem IA (a b:List Nat)(la:a.length<=100000000)(lb:b.length<=100000000)(ha:bV a)(hb:bV b) :
  ∃ r,Ex E0 (.loop Gc) (KX a b (row0 [] (a.length+b.length)) 0 .u) r/\∃ O,bV O/\O.length=a.length+b.length/\val O=val a*val b/\r=(.exit 0,KX a b O a.length (.d (.v (.bool false)))):=by
 refine Ex.inv (S:=fun t:List Nat × Nat=>KX a b t.1 t.2 .u) (fun t=>a.length-t.2) (fun t=>t.2<=a.length/\t.1.length=a.length+b.length/\bV t.1/\val t.1=bY a t.2*val b) _ ?_ (row0 [] (a.length+b.length),0) ?_
 ·rintro⟨O,i⟩ ⟨h1,h2,h3,h4⟩;simp only at h1 h2 h3 h4
  by_cases hi:i<a.length
  ·obtain⟨r,hr,O',j,g1,g2,g3,rfl⟩:=Iz a b O i hi la lb ha hb h3 h2 h4;refine .inl ⟨(O',i+1),?_,by simp only;omega,by simp only;omega,g2,g1,g3⟩;have bz:ah .i64 ((i:Int)+1)=(i:Int)+1:=wrap_i64 omK;have hk1:((i+1:Nat):Int)=(i:Int)+1:=by omega
   show Ex E0 (.seq Gc.l (.seq Gc.r.l (.seq (.block 1 (.seq Gc.r.r.l.bl.l (.seq Gc.r.r.l.bl.r.l (.seq Gc.r.r.l.bl.r.r.l (.block 2 (.loop tjB)))))) Gc.r.r.r))) _ _;refine Ex.seq (st1:=KX a b O i (.d (.v (.bool true)))) (Ex.of (n:=40) ?_) (Ex.seq (st1:=KX a b O i (.d (.v (.bool true)))) (Ex.of (n:=40) ?_) (Ex.seq (Ex.gm
    (Ex.seq (st1:={KX a b O i .u with vars:=[.d (LD a),.d (LD b),.u,.ls (.loc 0) 0 1 0 (a.length+b.length),.d (.v (.int .i64 i)),.u,.u,.d (.v (.int .i64 a.length)),.d (.v (.int .i64 i)),.u,.u]}) (Ex.of (n:=40) ?_)
    (Ex.seq (st1:={KX a b O i .u with vars:=[.d (LD a),.d (LD b),.u,.ls (.loc 0) 0 1 0 (a.length+b.length),.d (.v (.int .i64 i)),.d (.v (.int .u64 0)),.u,.d (.v (.int .i64 a.length)),.d (.v (.int .i64 i)),.u,.u]}) (Ex.of (n:=40) ?_)
    (Ex.seq (Ex.of (n:=40) ?_) hr.block)))) (Ex.of (n:=40) ?_)))
   ·unfold KX;simp -implicitDefEqProofs[Gc,f188,hi]
   ·unfold KX;simp -implicitDefEqProofs[Gc,f188]
   ·unfold KX;simp -implicitDefEqProofs[Gc,f188]
   ·unfold KX;simp -implicitDefEqProofs[Gc,f188]
   ·unfold KX SV;simp -implicitDefEqProofs[Gc,f188]
   ·unfold KX SV;rw[hk1];simp -implicitDefEqProofs[Gc,f188,bz]
  ·have he:i=a.length:=by omega
   subst he;rw[fH (Qd1 _)]at h4;refine .inr ⟨_,Ex.of (n:=60) ?_,?_,O,h3,h2,h4,rfl⟩
   ·unfold KX;simp -implicitDefEqProofs[Gc,f188]
   ·simp
 ·refine⟨by simp,by simp[row0],?_,?_⟩
  ·intro x hx;simp[row0]at hx;omega
  ·have:∀ m,val (List.replicate m 0)=0:=by
    intro m
    induction m with
    | zero=>rfl
    | succ m ih=>rw[Xk1,val,ih]
   simp[row0,bY,val,this]
theorem IB (a b:List Nat)(la:a.length<=100000000)(lb:b.length<=100000000)(ha:bV a)(hb:bV b) :
  Ca E0 SS [.d (LD a),.d (LD b)] (.d (LD (enc (val a*val b))),none):=by
 obtain⟨r,hl,o,ho,hol,hv,rfl⟩:=IA a b la lb ha hb;obtain⟨n0,hc⟩:=(iC o omK).get;rw[df ho,hv]at hc;have hlo:(LL o).length=a.length+b.length:=by simp[LL,hol]
 have hla:(LL a).length=a.length:=by simp[LL]
 have hlb:(LL b).length=b.length:=by simp[LL]
 have htk:(LL o).take (a.length+b.length)=LL o:=Qg0 omK;have hz:=wz (a.length+b.length);generalize enc (val a*val b)=res at*;refine Ca.body (o:=.ret) (st1:=(st0 [.u,.u,.d (LD res),.u,.u,.u,.u,.u,.u,.u,.u] [.gT 0 1 (LL o)])) rfl (k188:E0.fn _=_) rfl ?_ (by intro id h;cases h) ?_
 ·show Ex E0 (.seq Bl.body.l (.seq Bl.body.r.l (.seq (.seq Bl.body.r.r.l.l (.block 0 (.loop Gc))) Bl.body.r.r.r))) _ _;refine Ex.seq (st1:=(st0 [.d (LD a),.d (LD b),.u,.u,.u,.u,.u,.u,.u,.u,.u] [])) (Ex.of (n:=40) ?_)
   (Ex.seq (st1:=(st0 [.d (LD a),.d (LD b),.u,.ls (.loc 0) 0 1 0 (a.length+b.length),.u,.u,.u,.u,.u,.u,.u] [.row 0 1 (LL (row0 [] (a.length+b.length)))])) (Ex.of (n:=40) ?_)
   (Ex.seq (Ex.seq (Ex.of (n:=40) ?_) hl.block) (Ex.of (n:=n0+40) ?_)))
  ·simp -implicitDefEqProofs[f188]
  ·have hw:ah .i64 ((a.length:Int)+(b.length:Int))=((a.length+b.length:Nat):Int):=by rw[wrap_i64 omK];omega
   have hmb:a.length+b.length<=200000000:=by omega
   rw[hz];generalize a.length+b.length=m at*;have hm1:(m:Int)*4<=1099511627776:=by omega
   have hm2:(m:Int)<=1099511627776:=by omega
   simp -implicitDefEqProofs[f188,LD,hla,hlb,hw,hm1,hm2,most]
  ·unfold KX;simp -implicitDefEqProofs[f188,LD,hla]
  ·unfold KX;simp only[LD]at hc ⊢;clear hl;generalize LL o=es,a.length+b.length=m at*;simp -implicitDefEqProofs[ae.view,f188,hlo,htk,hc]
 ·simp -implicitDefEqProofs[f188,LD]
abbrev aaB:Nat:=226
abbrev zx:ai:=f226
abbrev ahz:Nat:=183
abbrev abC:ai:=f183
theorem jr {d:Nat}(h0:0<d)(h:d<4294967296):enc d=[d]:=by
 rw[enc,if_neg omK,Qw1 h,Xb0 h];simp[enc]
theorem dx:enc 0=[]:=by simp[enc]
theorem IC (r:Nat)(h:r<4294967296):trim [r]=enc r:=by
 rw[df (by intro x hx;simp at hx;omega)];simp[val]
theorem SY (a:List Nat)(d:Nat)(la:a.length<=1000000000)(ha:bV a)(hd:d<4294967296)(hd0:0<d) :
  Ca E0 aaB [.d (LD a),.d (LD (enc d))] (.d (.t [LD (enc (val a / d)),LD (enc (val a % d))]),none):=by
 obtain⟨n0,hs⟩:=(SQ a d la ha hd hd0).any;have hm:val a % d<4294967296:=by have:=Qv0 (val a) hd0;omega
 obtain⟨n1,hc⟩:=(iC [val a % d] (by simp)).any;replace hs:=hs (n0+n1) omK;replace hc:=hc (n0+n1) omK;generalize n0+n1=N at*;rw[IC _ hm]at hc;rw[jr hd0 hd];generalize enc (val a / d)=q,val a % d=m at*;generalize enc m=r at*;simp only[LD,LL,Qd2,Qc0]at hs hc ⊢;refine Ca.bO (n:=N+60) ?_;rw[av rfl (k226:E0.fn _=_) rfl];generalize List.map (fun(x:Nat)=>D.v (Value.int IntKind.u32 (x:Int))) a=as' at*;simp -implicitDefEqProofs[f226,uC,hs,hc]
def gcB:aG:=abC.body.r.l.bl.lp
def Eg (a b:Nat)(t:FV):St:=(st0 [.d (LD (enc a)),.d (LD (enc b)),.u,.u,t] [])
theorem gp {n k:Nat}(h:n<4294967296 ^ k):(enc n).length<=k:=by
 induction k generalizing n with
 | zero => have : n = 0 := by simp at h;omega
           subst this;simp[dx]
 | succ k ih =>
  rw[enc];split
  ·simp
  ·simp only[Qe2];have:=ih (n:=n / 4294967296) (by rw[Ql1]at h;omega);omega
theorem X0 (a:Nat):Ex E0 gcB (Eg a 0 .u) (.exit 0,Eg a 0 (.d (.v (.bool false)))):=by
 refine Ex.of (n:=40) ?_;unfold Eg;simp only[dx,LD];generalize LL (enc a)=as';simp -implicitDefEqProofs[gcB,f183,LL]
abbrev aeW:Nat:=267
abbrev EJ:ai:=f267
theorem PG {x s:Nat}(hx:x<4294967296)(hs:s<32):Lc .u64 (x:Int) (s:Int)=((x*2 ^ s:Nat):Int):=by
 have hp:2 ^ s<=2147483648:=by
  have:=Qt2 (n:=2) omK (show s<=31 by omega);simpa using this
 have hxs:x*2 ^ s<=4294967295*2147483648:=Q72 omK hp;rw[Ap,<-cK];have h:(2:Int) ^ (min (Int.toNat (s:Int)) (IntKind.bits .u64))=((2 ^ s:Nat):Int):=by
  have:min (Int.toNat (s:Int)) (IntKind.bits .u64)=s:=by simp[IntKind.bits];omega
  rw[this];simp
 rw[h,<-Int.natCast_mul];exact wrap_u64 omK
theorem abD {r x s:Nat}(hr:r<2 ^ s)(hx:x<4294967296)(hs:s<32):Bj .u64 (r:Int) ((x*2 ^ s:Nat):Int)=((r+x*2 ^ s:Nat):Int):=by
 have hp:2 ^ s<=2147483648:=by
  have:=Qt2 (n:=2) omK (show s<=31 by omega);simpa using this
 have hxs:x*2 ^ s<=4294967295*2147483648:=Q72 omK hp;rw[yx,<-cK]
 change ah .u64 ((BitVec.ofInt 64 (r:Int) ||| BitVec.ofInt 64 ((x*2 ^ s:Nat):Int)).toNat:Int)=_
 have e:x*2 ^ s=x <<< s:=by rw[Nat.shiftLeft_eq]
 have l1:r<2 ^ 64:=by omega
 have l2:x <<< s<2 ^ 64:=by rw[<-e];omega
 rw[BitVec.ofInt_natCast,BitVec.ofInt_natCast,BitVec.toNat_or,BitVec.toNat_ofNat,BitVec.toNat_ofNat,e,Qw1 l1,Qw1 l2,Nat.or_comm,<-Xo1 hr,Xs2];refine wrap_u64 ?_;rw[<-e];omega
def leB:aG:=EJ.body.r.r.r.l.r.bl.lp
def X3 (a o:List Nat)(k z j r:Nat)(t:FV):St:=(st0 [.u,.d (.v (.int .i64 k)),.u,.ls (.loc 0) j 1 0 (z+j),.d (.v (.int .u64 r)),.u,.d (LD a),.d (.v (.int .i64 a.length)),.d (.v (.int .i64 j)),t] [.row j 1 (LL o)])
theorem Li (a o:List Nat)(k z s j r x:Nat)(hk:k=32*z+s)(hs:s<32)(hz:z<=100000000)(hx:a[j]?=some x)(hx32:x<4294967296)(la:a.length<=100000000)(ho:o.length=z+j)(hr:r<2 ^ s) :
  EX E0 60 leB (X3 a o k z j r .u)=some (.norm,X3 a (o++[(r+x*2 ^ s) % 4294967296]) k z (j+1) ((r+x*2 ^ s) / 4294967296) .u):=by
 have hj:=(bD hx)
 have hx':(LL a)[j]?=some (.v (.int .u32 (x:Int))):=by simp[LL,hx]
 have hx2:=idx hx';have hp:2 ^ s<=2147483648:=by
  have:=Qt2 (n:=2) omK (show s<=31 by omega);simpa using this
 have hxs:x*2 ^ s<=4294967295*2147483648:=Q72 omK hp;have w1:ah .u64 (x:Int)=(x:Int):=wrap_u64 omK;have w2:Int.tmod (k:Int) 32=(s:Int):=by rw[Xd1 omK];omega
 have w3:=PG hx32 hs;have w4:=abD hr hx32 hs;have hT:∃ T:Nat,T=r+x*2 ^ s:=⟨_,rfl⟩
 obtain⟨T,hT⟩:=hT;rw[<-hT]at w4 ⊢;have hTb:T<18446744073709551616:=by omega
 have hP:∃ P:Nat,P=x*2 ^ s:=⟨_,rfl⟩
 obtain⟨P,hP⟩:=hP;rw[<-hP]at w3 w4;have w5:ah .u32 (T:Int)=((T % 4294967296:Nat):Int):=by rw[dH];omega
 have w6:Int.fdiv (T:Int) 4294967296=((T / 4294967296:Nat):Int):=by rw[Qm1 _ omK];omega
 have bz:ah .i64 ((j:Int)+1)=(j:Int)+1:=wrap_i64 omK;have hk1:((j+1:Nat):Int)=(j:Int)+1:=by omega
 have hj0:(0:Int)<=(j:Int):=by omega
 have hs0:¬ ((s:Int)<0):=by omega
 have hol:(LL o).length=z+j:=by simp[LL,ho]
 have htk:(LL o).take (z+j)=LL o:=Qg0 omK;have hm1:(z+j+1)*4<=most:=by simp[most];omega
 have hm2:z+j+1<=most:=by simp[most];omega
 have RY:LL (o++[T % 4294967296])=LL o++[.v (.int .u32 ((T % 4294967296:Nat):Int))]:=by simp[LL]
 clear hT hP hxs hp hTb;generalize T % 4294967296=lo,T / 4294967296=hi at*;unfold X3;rw[RY,hk1,<-Qv2];simp only[LD];generalize LL a=xs,LL o=es,z+j=m at*;simp -implicitDefEqProofs[IntKind.bits,leB,f267,hj,hj0,hx',hx2,bz,hs0,w1,w2,w3,w4,w5,w6,hol,htk,hm1,hm2]
theorem left_step {V r Q x T W E:Nat}(h:V+r*Q=E*W)(hT:T=r+x):V+Q*(T % 4294967296)+T / 4294967296*(Q*4294967296)=E*W+Q*x:=by
 have h1:Q*(T % 4294967296)+T / 4294967296*(Q*4294967296)=Q*T:=by
  have:=Nat.mod_add_div T 4294967296;generalize T % 4294967296=a,T / 4294967296=b at*;subst this;grind
 have h2:Q*T=Q*r+Q*x:=by rw[hT,Xc0]
 have h3:Q*r=r*Q:=Qj2 _ _;omega
theorem PH (m:Nat):val (List.replicate m 0)=0:=by
 induction m with
 | zero=>rfl
 | succ m ih=>rw[Xk1,val,ih]
theorem PI (a:List Nat)(k z s:Nat)(hk:k=32*z+s)(hs:s<32)(hz:z<=100000000)(la:a.length<=100000000)(ha:bV a) :
  ∃ r,Ex E0 (.loop leB) (X3 a (List.replicate z 0) k z 0 0 .u) r/\∃ o q,bV o/\o.length=z+a.length/\q<2 ^ s /\
   val o+q*4294967296 ^ (z+a.length)=4294967296 ^ z*2 ^ s*val a/\r=(.exit 0,X3 a o k z a.length q (.d (.v (.bool false)))):=by
 refine Ex.inv (S:=fun t:List Nat × Nat × Nat=>X3 a t.1 k z t.2.1 t.2.2 .u) (fun t=>a.length-t.2.1)
  (fun t=>t.2.1<=a.length/\t.1.length=z+t.2.1/\t.2.2<2 ^ s/\bV t.1/\val t.1+t.2.2*4294967296 ^ (z+t.2.1)=4294967296 ^ z*2 ^ s*bY a t.2.1) _ ?_ (List.replicate z 0,0,0) ?_
 ·rintro⟨o,j,r⟩ ⟨h1,h2,h3,h4,h5⟩;simp only at h1 h2 h3 h4 h5
  by_cases hj:j<a.length
  ·have hx:a[j]?=some (a[j]'hj):=Qa0 hj;have hx32:a[j]'hj<4294967296:=ha _ (Qi2 _);have hat:bF a j=a[j]'hj:=by simp[bF,hx]
   generalize a[j]'hj=x at hx hx32 hat;have hr:=Li a o k z s j r x hk hs hz hx hx32 la h2 h3;refine .inl ⟨(o++[(r+x*2 ^ s) % 4294967296],j+1,(r+x*2 ^ s) / 4294967296),Ex.of hr,by simp only;omega,by simp only;omega,?_,?_,?_,?_⟩
   ·simp only[Qb0,Qe2,Qr2];omega
   ·simp only;rw[Qu1 omK];have h6:x*2 ^ s+2 ^ s<=4294967296*2 ^ s:=by rw[<-Nat.succ_mul];exact Qe1 _ hx32
    rw[Qj2 (2 ^ s) 4294967296];omega
   ·exact iD h4 (fun y hy=>by simp at hy;subst hy;exact Qv0 _ omK)
   ·simp only;rw[val_append,h2,dZ,hat,<-Qv2,Ql1];have hv:val [(r+x*2 ^ s) % 4294967296]=(r+x*2 ^ s) % 4294967296:=by simp[val]
    rw[hv,left_step h5 rfl,Qx0];generalize 4294967296 ^ z=p;generalize 4294967296 ^ j=q;generalize 2 ^ s=t;grind
  ·have he:j=a.length:=by omega
   subst he;rw[fH (Qd1 _)]at h5;refine .inr ⟨_,Ex.of (n:=60) ?_,?_,o,r,h4,h2,h3,h5,rfl⟩
   ·unfold X3;simp -implicitDefEqProofs[leB,f267]
   ·simp
 ·refine⟨by simp,by simp,Qq2 omK,?_,?_⟩
  ·intro x hx;have:=List.eq_of_mem_replicate hx;omega
  ·simp[PH,bY,val]
theorem Au (a:List Nat)(k:Nat)(hk:k<=3200000000)(la:a.length<=100000000)(ha:bV a) :
  Ca E0 aeW [.d (LD a),.d (.v (.int .i64 k))] (.d (LD (enc (val a*2 ^ k))),none):=by
 obtain⟨z,s,hzs,hs⟩:∃ z s,k=32*z+s/\s<32:=⟨k / 32,k % 32,by omega,by omega⟩
 have hz:z<=100000000:=by omega
 obtain⟨r,hl,o,q,ho,hol,hq,hv,rfl⟩:=PI a k z s hzs hs hz la ha;have hp:2 ^ s<=2147483648:=by
  have:=Qt2 (n:=2) omK (show s<=31 by omega);simpa using this
 have akh:q<4294967296:=by omega
 have hres:val (o++[q])=val a*2 ^ k:=by
  have e:2 ^ (32*z+s)=4294967296 ^ z*2 ^ s:=by rw[Qx0,X22]
  have hv2:val [q]=q:=by simp[val]
  rw[val_append,hol,hzs,e,hv2,Qj2 _ q,hv,Qj2]
 have hlim:bV (o++[q]):=iD ho (fun y hy=>by simp at hy;omega);obtain⟨n0,hc⟩:=(iC (o++[q]) (by simp;omega)).get;rw[df hlim,hres]at hc;have RY:LL (o++[q])=LL o++[.v (.int .u32 (q:Int))]:=by simp[LL]
 have hlo:(LL o).length=z+a.length:=by simp[LL,hol]
 have hla:(LL a).length=a.length:=by simp[LL]
 have htk:(LL o).take (z+a.length)=LL o:=Qg0 omK;have ahA:(LL o++[D.v (.int .u32 (q:Int))]).take (z+a.length+1)=LL o++[.v (.int .u32 (q:Int))]:=Qg0 (by simp;omega);have hz0:LL (List.replicate z 0)=List.replicate z (.v (.int .u32 0)):=by simp[LL]
 have w5:ah .u32 (q:Int)=(q:Int):=wrap_u32 omK;have hm1:(z+a.length+1)*4<=most:=by simp[most];omega
 have hm2:z+a.length+1<=most:=by simp[most];omega
 generalize enc (val a*2 ^ k)=res at*;refine Ca.body (o:=.ret) (st1:=(st0 [.u,.u,.d (LD res),.u,.u,.u,.u,.u,.u,.u] ([.gT (a.length+1) 1 (LL (o++[q]))]))) rfl (k267:E0.fn _=_) rfl ?_ (by intro id h;cases h) ?_
 ·show Ex E0 (.seq EJ.body.l (.seq EJ.body.r.l (.seq EJ.body.r.r.l (.seq (.seq EJ.body.r.r.r.l.l (.block 0 (.loop leB))) EJ.body.r.r.r.r)))) _ _;refine Ex.seq (st1:=(st0 [.d (LD a),.d (.v (.int .i64 k)),.u,.u,.u,.u,.u,.u,.u,.u] [])) (Ex.of (n:=40) ?_)
   (Ex.seq (st1:=(st0 [.d (LD a),.d (.v (.int .i64 k)),.u,.ls (.loc 0) 0 1 0 z,.u,.u,.u,.u,.u,.u] [.row 0 1 (LL (List.replicate z 0))])) (Ex.of (n:=40) ?_)
   (Ex.seq (st1:=(st0 [.d (LD a),.d (.v (.int .i64 k)),.u,.ls (.loc 0) 0 1 0 z,.d (.v (.int .u64 0)),.u,.u,.u,.u,.u] [.row 0 1 (LL (List.replicate z 0))])) (Ex.of (n:=40) ?_)
   (Ex.seq (Ex.seq (Ex.of (n:=40) ?_) hl.block) (Ex.of (n:=n0+40) ?_))))
  ·simp -implicitDefEqProofs[f267]
  ·have v1:Int.tdiv (k:Int) 32=(z:Int):=by rw[Q62 omK];omega
   have v2:ah .i64 (z:Int)=(z:Int):=wrap_i64 omK;have v3:ah .i64 ((z:Int)+(a.length:Int))=(z:Int)+(a.length:Int):=wrap_i64 omK;have v4:ah .i64 ((z:Int)+(a.length:Int)+1)=(z:Int)+(a.length:Int)+1:=wrap_i64 omK;have v5:(z:Int)<=(z:Int)+(a.length:Int)+1:=by omega
   have v6:((z:Int)+(a.length:Int)+1)*4<=1099511627776:=by omega
   have v7:(z:Int)+(a.length:Int)+1<=1099511627776:=by omega
   rw[hz0];clear hl;simp only[LD];generalize LL a=xs,a.length=m at*;simp -implicitDefEqProofs[f267,hla,v1,v2,v3,v4,v5,v6,v7,most]
  ·simp -implicitDefEqProofs[f267]
  ·unfold X3;simp -implicitDefEqProofs[f267,LD,hla]
  ·unfold X3;rw[RY];simp only[LD]at hc ⊢;rw[RY]at hc;clear hl;generalize LL o=es,z+a.length=m at*;simp -implicitDefEqProofs[ae.view,f267,hlo,htk,ahA,hm1,hm2,w5,hc]
 ·simp -implicitDefEqProofs[f267,LD]
abbrev abE:Nat:=268
abbrev Bo:ai:=f268
def riD (a:List Nat)(s i:Nat):Nat:=(bF a i+4294967296*bF a (i+1)) / 2 ^ s % 4294967296
theorem IE {x y V s:Nat}(hs:s<32)(hx:x<4294967296) :
  (x+4294967296*(y+4294967296*V)) / 2 ^ s=(x+4294967296*y) / 2 ^ s % 4294967296+4294967296*((y+4294967296*V) / 2 ^ s):=by
 have hp:0<2 ^ s:=Qq2 omK;have hq:2 ^ s*2 ^ (32-s)=4294967296:=by rw[<-Qx0,show s+(32-s)=32 by omega]
 generalize 2 ^ s=p,2 ^ (32-s)=q at*;have h1:=Nat.mod_add_div ((x+4294967296*(y+4294967296*V)) / p) 4294967296;have h2:(x+4294967296*(y+4294967296*V)) / p / 4294967296=(y+4294967296*V) / p:=by
  rw[Qy2,Qj2 p,<-Qy2]
  congr 1
  omega
 have h3:(x+4294967296*(y+4294967296*V)) / p=(x+4294967296*y) / p+4294967296*(q*V):=by
  have e:x+4294967296*(y+4294967296*V)=(x+4294967296*y)+p*(4294967296*(q*V)):=by
   have:4294967296*(4294967296*V)=p*(4294967296*(q*V)):=by rw[<-hq];grind
   omega
  rw[e,X01 _ _ hp]
 have h4:(x+4294967296*(y+4294967296*V)) / p % 4294967296=(x+4294967296*y) / p % 4294967296:=by rw[h3,Nat.add_mul_mod_self_left]
 rw[h2,h4]at h1;exact h1.symm
def riB:aG:=Bo.body.r.r.l.r.bl.lp
def S9 (a o:List Nat)(k i j:Nat)(t:FV):St:=(st0 [.d (LD a),.d (.v (.int .i64 k)),.u,dS j,.d (.v (.int .i64 i)),t] (dU j (LL o)))
theorem PK (a o:List Nat)(k i j:Nat)(hi:¬ i<a.length):EX E0 60 riB (S9 a o k i j .u)=some (.exit 0,S9 a o k i j (.d (.v (.bool false)))):=by
 have hla:(LL a).length=a.length:=by simp[LL]
 unfold S9;simp only[LD];generalize LL a=xs,dS j=ov,dU j (LL o)=oh at*;simp -implicitDefEqProofs[riB,f268,hla,hi]
theorem IG (a o:List Nat)(k z s i j:Nat)(hk:k=32*z+s)(hs:s<32)(hz:z<=100000000)(hi:i<a.length)(la:a.length<=100000000)(ha:bV a)(ho:o.length=j)(hj:j<=100000000) :
  EX E0 80 riB (S9 a o k i j .u)=some (.norm,S9 a (o++[riD a s i]) k (i+1) (j+1) .u):=by
 have hla:(LL a).length=a.length:=by simp[LL]
 have h1:=fun m=>j4 m a omK (i+1) omK ha
 have h2:=fun m=>j4 m a omK i omK ha
 have xa:=di ha i;have xb:=di ha (i+1);have hk1:((i+1:Nat):Int)=(i:Int)+1:=by omega
 have bz:ah .i64 ((i:Int)+1)=(i:Int)+1:=wrap_i64 omK;simp only[LD,hk1]at h1 h2;unfold riD;generalize bF a i=x,bF a (i+1)=y at*;have w1:=SL xb;have w2:=Bi xb xa;obtain⟨P,hP⟩:∃ P:Nat,(P:Int)=(y:Int)*4294967296:=⟨y*4294967296,by omega⟩
 obtain⟨T,hT⟩:∃ T:Nat,T=x+4294967296*y:=⟨_,rfl⟩
 have hT2:(y:Int)*4294967296+(x:Int)=(T:Int):=by omega
 rw[hT2,<-hP]at w2;rw[<-hP]at w1;rw[<-hT];have w3:Int.fdiv (T:Int) (2 ^ (min s 64))=((T / 2 ^ s:Nat):Int):=by
  rw[show min s 64=s by omega,Qm1 _ (Int.pow_nonneg omK),Xy1];simp
 have w4:Int.tmod (k:Int) 32=(s:Int):=by rw[Xd1 omK];omega
 have hTq:T / 2 ^ s<18446744073709551616:=Xb1 (Xm1 _ _) omK;generalize T / 2 ^ s=Q at*;have w5:ah .u32 (Q:Int)=((Q % 4294967296:Nat):Int):=by rw[dH];omega
 have hs0:¬ ((s:Int)<0):=by omega
 have RY:LL (o++[Q % 4294967296])=LL o++[.v (.int .u32 ((Q % 4294967296:Nat):Int))]:=by simp[LL]
 have hol:(LL o).length=j:=by simp[LL,ho]
 have hv1:dS (j+1)=.ls (.loc 0) j 1 0 (j+1):=by simp[dS]
 have Ei:∀ l,dU (j+1) l=[.row j 1 l]:=by intro l;simp[dU]
 have hm1:(j+1)*4<=most:=by simp[most];omega
 have hm2:j+1<=most:=by simp[most];omega
 have htk:(LL o).take j=LL o:=Qg0 omK;clear hP hT hT2 hTq;unfold S9;rw[RY,hv1,Ei,hk1];generalize Q % 4294967296=lo at*
 by_cases hj0:j=0
 ·have hv:dS j=.d (.n 1):=by simp[dS,hj0]
  have hh:∀ l,dU j l=[]:=by intro l;simp[dU,hj0]
  have hLo:LL o=[]:=Qo0 omK;have hvk:FV.ls (.loc 0) 0 1 0 1=FV.ls (.loc 0) j 1 0 (j+1):=by rw[hj0]
  have hhk:∀ l,ae.row 0 1 l=ae.row j 1 l:=by intro l;rw[hj0]
  rw[hv,hh,hLo,<-hvk,<-hhk];simp only[LD];generalize LL a=xs at*;simp -implicitDefEqProofs[IntKind.bits,riB,f268,hla,hi,h1,h2,bz,hs0,w1,w2,w3,w4,w5,most]
 ·have hv:dS j=.ls (.loc 0) (j-1) 1 0 j:=by simp[dS,hj0]
  have hh:∀ l,dU j l=[.row (j-1) 1 l]:=by intro l;simp[dU,hj0]
  have hk2:j-1+1=j:=by omega
  rw[hv,hh];simp only[LD];generalize LL a=xs,LL o=es at*;simp -implicitDefEqProofs[IntKind.bits,riB,f268,hla,hi,h1,h2,bz,hs0,w1,w2,w3,w4,w5,hm1,hm2,hol,htk,hk2]
theorem Lj (a:List Nat)(k z s:Nat)(hk:k=32*z+s)(hs:s<32)(hz:z<=100000000)(la:a.length<=100000000)(ha:bV a) :
  ∃ r,Ex E0 (.loop riB) (S9 a [] k z 0 .u) r/\∃ o i,bV o/\o.length<=a.length/\val o=val (a.drop z) / 2 ^ s/\r=(.exit 0,S9 a o k i o.length (.d (.v (.bool false)))):=by
 refine Ex.inv (S:=fun t:List Nat × Nat=>S9 a t.1 k (z+t.2) t.2 .u) (fun t=>a.length-t.2)
  (fun t=>t.1.length=t.2/\(t.2=0\/z+t.2<=a.length)/\bV t.1/\val t.1+4294967296 ^ t.2*(val (a.drop (z+t.2)) / 2 ^ s)=val (a.drop z) / 2 ^ s) _ ?_ ([],0) ?_
 ·rintro⟨o,j⟩ ⟨h1,h2,h3,h4⟩;simp only at h1 h2 h3 h4
  by_cases hi:z+j<a.length
  ·have hr:=IG a o k z s (z+j) j hk hs hz hi la ha h1 omK;refine .inl ⟨(o++[riD a s (z+j)],j+1),?_,by simp only;omega,?_,?_,?_,?_⟩
   ·simp only;rw[<-Qv2];exact Ex.of hr
   ·simp[h1]
   ·simp only;omega
   ·exact iD h3 (fun y hy=>by simp at hy;subst hy;exact Qv0 _ omK)
   ·simp only;rw[val_append,h1,<-h4,<-Qv2,iZ a (z+j),iZ a (z+j+1),IE hs (di ha _),Ql1];have hv:val [riD a s (z+j)]=riD a s (z+j):=by simp[val]
    rw[hv];unfold riD;rw[Xc0,Q61];omega
  ·rw[iE omK,Nat.zero_div,Nat.mul_zero,Q70]at h4;refine .inr ⟨_,Ex.of (PK a o k (z+j) j hi),by simp,o,z+j,h3,by omega,h4,by rw[h1]⟩
 ·refine⟨rfl,.inl rfl,?_,by simp[val]⟩;intro x hx;cases hx
theorem II:∀ (a:List Nat) (z:Nat),bV a->val (a.drop z)=val a / 4294967296 ^ z
 | a,0,_=>by simp
 | [],z+1,_=>by simp[val]
 | x::r,z+1,h=>by
  have hx:=h x (Qj1 ..);have e:(x+4294967296*val r) / (4294967296 ^ z*4294967296)=(x+4294967296*val r) / 4294967296 / 4294967296 ^ z:=by
   rw[Qj2 (4294967296 ^ z) 4294967296,Qy2]
  have e2:(x+4294967296*val r) / 4294967296=val r:=by omega
  rw[List.drop_succ_cons,II r z (fun y hy=>h y (Qh0 _ hy)),val,Ql1,e,e2]
theorem S_ (a:List Nat)(k:Nat)(hk:k<=3200000000)(la:a.length<=100000000)(ha:bV a) :
  Ca E0 abE [.d (LD a),.d (.v (.int .i64 k))] (.d (LD (enc (val a / 2 ^ k))),none):=by
 obtain⟨z,s,hzs,hs⟩:∃ z s,k=32*z+s/\s<32:=⟨k / 32,k % 32,by omega,by omega⟩
 have hz:z<=100000000:=by omega
 obtain⟨r,hl,o,i,ho,hol,hv,rfl⟩:=Lj a k z s hzs hs hz la ha;have hres:val o=val a / 2 ^ k:=by
  rw[hv,II a z ha,Qy2,hzs,Qx0,X22]
 obtain⟨n0,hc⟩:=(iC o omK).get;rw[df ho,hres]at hc;have hlo:(LL o).length=o.length:=by simp[LL]
 generalize enc (val a / 2 ^ k)=res at*;refine Ca.body (o:=.ret) (st1:=(st0 [.u,.u,.d (LD res),.u,.u,.u] (if o.length=0 then [] else [.gT (o.length-1) 1 (LL o)]))) rfl (k268:E0.fn _=_) rfl ?_ (by intro id h;cases h) ?_
 ·show Ex E0 (.seq Bo.body.l (.seq Bo.body.r.l (.seq (.seq Bo.body.r.r.l.l (.block 0 (.loop riB))) Bo.body.r.r.r))) _ _;refine Ex.seq (st1:=(st0 [.d (LD a),.d (.v (.int .i64 k)),.u,.u,.u,.u] [])) (Ex.of (n:=40) ?_)
   (Ex.seq (st1:=(st0 [.d (LD a),.d (.v (.int .i64 k)),.u,.d (.n 1),.u,.u] [])) (Ex.of (n:=40) ?_)
   (Ex.seq (Ex.seq (Ex.of (n:=40) ?_) hl.block) (Ex.of (n:=n0+40) ?_)))
  ·simp -implicitDefEqProofs[f268]
  ·simp -implicitDefEqProofs[f268]
  ·have v1:Int.tdiv (k:Int) 32=(z:Int):=by rw[Q62 omK];omega
   have v2:ah .i64 (z:Int)=(z:Int):=wrap_i64 omK;unfold S9;simp -implicitDefEqProofs[f268,v1,v2,dS,dU]
  ·unfold S9;simp only[LD]at hc ⊢
   by_cases hk0:o.length=0
   ·have hLo:LL o=[]:=Qo0 omK;have hv1:dS o.length=.d (.n 1):=by simp[dS,hk0]
    have Ei:∀ l,dU o.length l=[]:=by intro l;simp[dU,hk0]
    rw[if_pos hk0,hv1,Ei];rw[hLo]at hc;clear hl;simp -implicitDefEqProofs[f268,hc]
   ·have htk:(LL o).take o.length=LL o:=Qg0 omK;have hv1:dS o.length=.ls (.loc 0) (o.length-1) 1 0 o.length:=by simp[dS,hk0]
    have Ei:∀ l,dU o.length l=[.row (o.length-1) 1 l]:=by intro l;simp[dU,hk0]
    rw[if_neg hk0,hv1,Ei];clear hl;generalize LL o=es,o.length=m at*;simp -implicitDefEqProofs[ae.view,f268,hlo,htk,hc]
 ·simp -implicitDefEqProofs[f268,LD]
set_option maxRecDepth 100000
abbrev abG:Nat:=303
abbrev aeX:Nat:=287
abbrev ajF:ai:=f287
abbrev X4:Nat:=266
abbrev ahb:ai:=f266
def gq (x:Nat):Nat:=if x=0 then 0 else Nat.log2 x+1
def oP:ByteArray:=⟨#[0,1,2,2,3,3,3,3,4,4,4,4,4,4,4,4,5,5,5,5,5,5,5,5,5,5,5,5,5,5,5,5,6,6,6,6,6,6,6,6,6,6,6,6,6,6,6,6,6,6,6,6,6,6,6,6,6,6,6,6,6,6,6,6,7,7,7,7,7,7,7,7,7,7,7,7,7,7,7,7,7,7,7,7,7,7,7,7,7,7,7,7,7,7,7,7,7,7,7,7,7,7,7,7,7,7,7,7,7,7,7,7,7,7,7,7,7,7,7,7,7,7,7,7,7,7,7,7,8,8,8,8,8,8,8,8,8,8,8,8,8,8,8,8,8,8,8,8,8,8,8,8,8,8,8,8,8,8,8,8,8,8,8,8,8,8,8,8,8,8,8,8,8,8,8,8,8,8,8,8,8,8,8,8,8,8,8,8,8,8,8,8,8,8,8,8,8,8,8,8,8,8,8,8,8,8,8,8,8,8,8,8,8,8,8,8,8,8,8,8,8,8,8,8,8,8,8,8,8,8,8,8,8,8,8,8,8,8,8,8,8,8,8,8,8,8,8,8,8,8,8,8,8,8,8,8]⟩
def IJ (t:ByteArray):ai:={np:=1,nv:=4,ref:=false,res:=[.var 1],body:=(.seq (.region [⟨false,none,.Av (.c (.v (.int .i64 0)))⟩] [(1,0)] []) (.seq (.seq (.region [⟨false,none,.Av (.var 0)⟩,⟨false,none,.bin .geq (.loc 0) (.c (.v (.int .u32 65536)))⟩] [(2,1)] []) (.cond (.var 2) (.seq (.seq (.region [⟨false,none,.Av (.var 0)⟩,⟨false,none,.bin .shr (.loc 0) (.c (.v (.int .u64 16)))⟩,⟨false,none,.Av (.loc 1)⟩] [(0,2)] []) (.kill [1,2])) (.region [⟨false,none,.Av (.c (.v (.int .i64 16)))⟩] [(1,0)] [])) .skip)) (.seq (.seq (.seq (.region [⟨false,none,.Av (.var 0)⟩,⟨false,none,.bin .geq (.loc 0) (.c (.v (.int .u32 256)))⟩] [(3,1)] []) (.kill [2])) (.cond (.var 3) (.seq (.seq (.region [⟨false,none,.Av (.var 0)⟩,⟨false,none,.bin .shr (.loc 0) (.c (.v (.int .u64 8)))⟩,⟨false,none,.Av (.loc 1)⟩] [(0,2)] []) (.kill [3])) (.region [⟨false,none,.Av (.var 1)⟩,⟨false,none,.bin .add (.loc 0) (.c (.v (.int .i64 8)))⟩,⟨false,none,.Av (.loc 1)⟩] [(1,2)] [])) .skip)) (.seq (.seq (.region [⟨false,none,.Av (.var 1)⟩,⟨false,none,.Av (.var 0)⟩,⟨false,none,.conv .u8 (.loc 1)⟩,⟨false,none,.uZ (.c (.v (.string t))) (.loc 2)⟩,⟨false,none,.conv .i64 (.loc 3)⟩,⟨false,none,.bin .add (.loc 0) (.loc 4)⟩,⟨false,none,.Av (.loc 5)⟩] [(1,6)] []) (.kill [0,3])) .ret))))}
theorem X5:f303=IJ oP:=rfl
theorem X6:((List.range 256).all fun i=>match oP[i]? with|some b=>Nat.beq b.toNat (gq i)|none=>false)=true:=by kernel_rfl
theorem X7 {i:Nat}(h:i<256):∃ b:UInt8,oP[i]?=some b/\b.toNat=gq i:=by
 have:=abH X6 h;cases hb:oP[i]? with
 | none=>rw[hb]at this;cases this
 | some b=>rw[hb]at this;exact⟨b,rfl,Ql2 this⟩
theorem u6 {x s:Nat}(h:2 ^ s<=x):gq x=gq (x / 2 ^ s)+s:=by
 have hp:0<2 ^ s:=Qq2 omK;have h1:0<x / 2 ^ s:=Xw0 h hp;unfold gq;rw[if_neg omK,if_neg omK];have h2:Nat.log2 x=Nat.log2 (x / 2 ^ s)+s:=by
  rw[Nat.log2_eq_iff omK];have a1:=Nat.log2_self_le (n:=x / 2 ^ s) omK;have a2:=Nat.lt_log2_self (n:=x / 2 ^ s);constructor
  ·rw[Qx0];exact Qc2 (Qe1 _ a1) (X2 x (2 ^ s))
  ·rw[show Nat.log2 (x / 2 ^ s)+s+1=(Nat.log2 (x / 2 ^ s)+1)+s by omega,Qx0];exact(Qu1 hp).1 a2
 omega
theorem EF {E:Env}{st:St}{rec:Nat->List FV->List ae->bG}{env:List FV}{draw:Bool}{x i:Arg}:RK E rec draw st env (.uZ x i)=runK E rec draw st env (.uZ x i):=dh ..
theorem wrap_u8 {z:Int}(h:0<=z/\z<256):ah .u8 z=z:=by
 rw[cK];simp only[IntKind.wrap,IntKind.bits,IntKind.signed];simp;omega
theorem Aw {x:Nat}(h:x<4294967296):gq x<=32:=by
 unfold gq;split
 ·omega
 ·have:=(Nat.log2_lt (n:=x) (k:=32) omK).2 omK;omega
theorem PL (n x:Nat)(hx:x<4294967296):CL E0 (n+40) abG [.d (.v (.int .u32 x))] []=some (.d (.v (.int .i64 (gq x))),none):=by
 rw[av rfl ((k303:E0.fn _=_).trans (congrArg some X5)) rfl];have fin:∀ (y m:Nat),y<256->m<=24->gq x=gq y+m->∃ b:UInt8,oP[y]?=some b/\ah .u8 (y:Int)=(y:Int)/\ah .i64 ((b.toNat:Nat):Int)=((b.toNat:Nat):Int) /\
   ah .i64 ((m:Int)+((b.toNat:Nat):Int))=(gq x:Int):=by
  intro y m hy hm he;obtain⟨b,h1,h2⟩:=X7 hy;have hb:=b.toNat_lt;exact⟨b,h1,wrap_u8 omK,wrap_i64 omK,by rw[wrap_i64 omK];omega⟩
 by_cases hA:65536<=x
 ·have hA':(65536:Int)<=(x:Int):=by omega
  have w1:Int.fdiv (x:Int) 65536=((x / 65536:Nat):Int):=by rw[Qm1 _ omK];omega
  have e1:gq x=gq (x / 65536)+16:=u6 (s:=16) omK;have hx1:x / 65536<65536:=by omega
  generalize x / 65536=x1 at*
  by_cases hB:256<=x1
  ·have hB':(256:Int)<=(x1:Int):=by omega
   have w2:Int.fdiv (x1:Int) 256=((x1 / 256:Nat):Int):=by rw[Qm1 _ omK];omega
   have e2:gq x1=gq (x1 / 256)+8:=u6 (s:=8) omK;have hx2:x1 / 256<256:=by omega
   generalize x1 / 256=x2 at*;obtain⟨b,f1,f2,f3,f4⟩:=fin x2 24 hx2 omK omK;have w3:ah .i64 24=24:=wrap_i64 omK;have hp:(0:Int)<=(x2:Int):=by omega
   generalize oP=tb at*;simp -implicitDefEqProofs[IntKind.bits,IJ,hA',hB',w1,w2,w3,f1,f2,f3,hp];simpa using f4
  ·have hB':¬ (256:Int)<=(x1:Int):=by omega
   obtain⟨b,f1,f2,f3,f4⟩:=fin x1 16 omK omK omK;have hp:(0:Int)<=(x1:Int):=by omega
   generalize oP=tb at*;simp -implicitDefEqProofs[IntKind.bits,IJ,hA',hB',w1,f1,f2,f3,hp];simpa using f4
 ·have hA':¬ (65536:Int)<=(x:Int):=by omega
  by_cases hB:256<=x
  ·have hB':(256:Int)<=(x:Int):=by omega
   have w2:Int.fdiv (x:Int) 256=((x / 256:Nat):Int):=by rw[Qm1 _ omK];omega
   have e2:gq x=gq (x / 256)+8:=u6 (s:=8) omK;have hx2:x / 256<256:=by omega
   generalize x / 256=x2 at*;obtain⟨b,f1,f2,f3,f4⟩:=fin x2 8 hx2 omK omK;have w3:ah .i64 8=8:=wrap_i64 omK;have hp:(0:Int)<=(x2:Int):=by omega
   generalize oP=tb at*;simp -implicitDefEqProofs[IntKind.bits,IJ,hA',hB',w2,w3,f1,f2,f3,hp];simpa using f4
  ·have hB':¬ (256:Int)<=(x:Int):=by omega
   obtain⟨b,f1,f2,f3,f4⟩:=fin x 0 omK omK omK;have hp:(0:Int)<=(x:Int):=by omega
   generalize oP=tb at*;simp -implicitDefEqProofs[IJ,hA',hB',f1,f2,f3,hp];simpa[f3] using f4
theorem Ta (n x:Nat)(hx:x<4294967296):CL E0 (n+80) aeX [.d (.v (.int .u32 x))] []=some (.d (.v (.int .i64 ((32-gq x:Nat):Int))),none):=by
 have t:=fun m=>PL m x hx
 have hb:=Aw hx;have w:ah .i64 (32-(gq x:Int))=((32-gq x:Nat):Int):=by rw[wrap_i64 omK];omega
 rw[av rfl (k287:E0.fn _=_) rfl];generalize gq x=bl at*;generalize 32-bl=r at*;simp -implicitDefEqProofs[f287,t,w]
theorem Ll (n:Nat)(b:List Nat)(x:Nat)(hx:x<4294967296)(hl:b.length<=100000000) :
  CL E0 (n+120) X4 [.d (LD (b++[x]))] []=some (.d (.v (.int .i64 ((32*b.length+gq x:Nat):Int))),none):=by
 have t:=fun m=>Ta m x hx
 have hb:=Aw hx;have hlen:(LL (b++[x])).length=b.length+1:=by simp[LL]
 have hget:(LL (b++[x]))[b.length]?=some (.v (.int .u32 (x:Int))):=by simp[LL]
 have hb0:(((b.length:Int)+1)==0)=false:=by simp;omega
 have w1:ah .i64 (b.length:Int)=(b.length:Int):=wrap_i64 omK;have w2:ah .i64 (32*((b.length:Int)+1))=32*((b.length:Int)+1):=wrap_i64 omK;have w3:ah .i64 (32*((b.length:Int)+1)-((32-gq x:Nat):Int))=((32*b.length+gq x:Nat):Int):=by rw[wrap_i64 omK];omega
 rw[av rfl (k266:E0.fn _=_) rfl];generalize 32*b.length+gq x=res,32-gq x=r at*;simp only[LD];generalize LL (b++[x])=es at*;have Be:=idx hget;generalize b.length=m at*;simp -implicitDefEqProofs[f266,hlen,Be,hb0,w1,w2,w3,t]
end Fi.S
