import Derived.Test.YthojoinggmjklaaGreatDoorSEnv
import Derived.Test.YthojoinggmjklaaGreatDoorFiG
set_option linter.unusedVariables false
set_option linter.unusedSimpArgs false
noncomputable section
namespace Fi.S
open Go Fi
set_option maxHeartbeats 8000000
attribute [simp] st0 Ty Xy Tz TB Xz TC Ol Lc Om Ld XA TD XB TE XC XD Oo aaN XE XF TG Oq Ot Ou Ov Ow Ox Oy XG XH TH TI XI Oz aaO XJ XK TJ OA OB OC OD Lf XL OE TK TL XM TM bY TN BR Lg kr runK yQ mD FV.target cu eB eT dH D.cells FV.cells FV.one D.one rC St.push St.heap St.aY yR splice oW fU aaP aaQ aaR aaS aaT ad1 aaU aaV aaW aaX aaY aaZ aa0 aa1 aa2 aa3 unV iA kY jM finish kz Dv eU leaves vQ leave1 ku OG yS eZ jm oneOf aI FV.rows FV.lY D.norm D.bZ scalar D.isV FV.shift FV.iE ae.shift jS rG elems aD.l aD.r aD.bl aD.lp
abbrev nAt:Nat:=225
abbrev fAt:ai:=f225
abbrev XN:Nat:=231
abbrev H7:ai:=f231
abbrev TQ:Nat:=180
abbrev adA:ai:=f180
theorem jo (n:Nat)(l:List Nat)(hl:l.length<=1000000000)(i:Nat)(hi:i<=1000000000)(hb:∀ x ∈ l,x<4294967296) :
  CL E0 (n+30) nAt [.d (LD l),.d (.v (.int .i64 i))] []=some (.d (.v (.int .u64 (bu l i))),none):=by
 rw[aA rfl (k225:E0.fn _=_) rfl]
 by_cases h:i<l.length
 ·have h1:((i:Int)<(l.length:Int)):=by omega
  have hx:l[i]?=some l[i]:=List.getElem?_eq_getElem h;have hw:ak .u64 (l[i]:Int)=(l[i]:Int):=wrap_u64 (by have:=hb l[i] (List.getElem_mem h);omega);have ha:bu l i=l[i]:=by simp[bu,hx]
  simp -implicitDefEqProofs[f225,LD,LL,h1,hx,hw,ha]
 ·have h1:¬ ((i:Int)<(l.length:Int)):=by omega
  have ha:bu l i=0:=by simp[bu,List.getElem?_eq_none (Nat.le_of_not_lt h)]
  simp -implicitDefEqProofs[f225,LD,LL,h1,ha]
def S9 (l:List Nat):St:=(st0 [.d (LD l),.u,.u] [])
def XO (l:List Nat):Out × St:=(.exit 0,(st0 [.d (LD (trim l)),.u,.d (.v (.bool false))] []))
def WE:aD:=match H7.body with
 | .seq _ (.seq (.block _ (.loop b)) _)=>b
 | _=>.skip
theorem Dw (n:Nat):EX E0 (n+40) WE (S9 [])=some (XO []):=by
 simp -implicitDefEqProofs[WE,S9,XO,f231,LD,LL,trim]
theorem E8 (n:Nat)(b:List Nat)(x:Nat)(hl:b.length<=1000000000) :
  EX E0 (n+40) WE (S9 (b++[x]))=if x=0 then some (.norm,S9 b) else some (XO (b++[x])):=by
 have hlen:(LL (b++[x])).length=b.length+1:=by simp[LL]
 have hget:(LL (b++[x]))[b.length]?=some (.v (.int .u32 (x:Int))):=by simp[LL]
 have htake:(LL (b++[x])).take b.length=LL b:=by simp[LL]
 have hpos:(0:Int)<(b.length:Int)+1:=by omega
 have hw:ak .i64 (b.length:Int)=(b.length:Int):=wrap_i64 (by omega)
 by_cases h:x=0
 ·subst h;unfold S9 LD;generalize LL (b++[0])=es at hlen hget htake;have yT:=idx hget;have hh:((b.length:Int)<=(b.length:Int)+1):=by omega
  simp -implicitDefEqProofs[WE,f231,hlen,hget,yT,htake,hpos,hw,hh,jq,Dx]
 ·have hx:((x:Int)==0)=false:=by simpa using h
  rw[if_neg h];unfold XO;rw[qJ b x h];unfold S9 LD;generalize LL (b++[x])=es at hlen hget htake;have yT:=idx hget;simp -implicitDefEqProofs[WE,f231,hlen,hget,yT,hpos,hw,hx]
theorem H8 (l:List Nat)(hl:l.length<=1000000000):Ex E0 (.loop WE) (S9 l) (XO l):=by
 have:=Ex.while (E:=E0) (b:=WE) (fun a:{l:List Nat // l.length<=1000000000}=>S9 a.1) (fun a=>a.1.length) (fun a=>XO a.1) ?_ ⟨l,hl⟩
 ·exact this
 ·rintro⟨l,hl⟩;rcases List.eq_nil_or_concat l with rfl|⟨b,x,rfl⟩
  ·exact .inr ⟨Ex.of (Dw 0),by intro h;cases h⟩
  ·have hb:b.length<=1000000000:=by simp at hl;omega
   have hr:=E8 0 b x hb;rw[<-List.concat_eq_append]at hr
   by_cases h:x=0
   ·subst h;rw[if_pos rfl]at hr;refine .inl ⟨⟨b,hb⟩,Ex.of hr,by simp,?_⟩;simp only[XO,List.concat_eq_append,qK]
   ·rw[if_neg h]at hr;exact .inr ⟨Ex.of hr,by intro h;cases h⟩
def clA:aD:=match H7.body with
 | .seq a _=>a
 | _=>.skip
def clC:aD:=match H7.body with
 | .seq _ (.seq _ c)=>c
 | _=>.skip
theorem f_ (l:List Nat)(hl:l.length<=1000000000):Ca E0 XN [.d (LD l)] (.d (LD (trim l)),none):=by
 refine Ca.body (o:=.ret) (st1:=(st0 [.u,.d (LD (trim l)),.u] [])) rfl (k231:E0.fn _=_) rfl ?_ (by intro id h;cases h) ?_
 ·show Ex E0 (.seq clA (.seq (.block 0 (.loop WE)) clC)) _ _;refine Ex.seq (st1:=S9 l) (Ex.of (n:=40) ?_) (Ex.seq ((H8 l hl).block) (Ex.of (n:=40) ?_))
  ·simp -implicitDefEqProofs[clA,S9,f231]
  ·simp -implicitDefEqProofs[clC,f231]
 ·simp -implicitDefEqProofs[f231,LD]
abbrev XP:Nat:=181
abbrev TR:ai:=f181
def Dy (a b:List Nat):Nat->Int
 | 0=>0
 | k+1=>if bu a k=bu b k then Dy a b k else if bu a k<bu b k then -1 else 1
def WG (a b:List Nat)(i:Int):St:=(st0 [.d (LD a),.d (LD b),.u,.d (.v (.int .i64 i)),.u,.u,.u,.u] [])
def OH (a b:List Nat):Nat->Out × St
 | 0=>(.exit 0,(st0 [.d (LD a),.d (LD b),.u,.d (.v (.int .i64 (-1))),.u,.u,.d (.v (.bool false)),.u] []))
 | k+1=>if bu a k=bu b k then OH a b k else(.ret,(st0 [.u,.u,.d (.v (.int .i64 (if bu a k<bu b k then -1 else 1))),.u,.u,.u,.u,.u] []))
def TS:aD:=match TR.body with
 | .seq _ (.seq (.seq _ (.block _ (.loop b))) _)=>b
 | _=>.skip
def cmA:aD:=match TR.body with
 | .seq a _=>a
 | _=>.skip
def TT:aD:=match TR.body with
 | .seq _ (.seq (.seq a (.block _ (.loop _))) _)=>a
 | _=>.skip
def cmC:aD:=match TR.body with
 | .seq _ (.seq (.seq _ (.block _ (.loop _))) c)=>c
 | _=>.skip
theorem bU {l:List Nat}(h:bK l)(i:Nat):bu l i<4294967296:=by
 unfold bu;cases hx:l[i]? with
 | none=>simp
 | some x=>exact h x (List.mem_of_getElem? hx)
theorem H9 (n:Nat)(a b:List Nat):EX E0 (n+60) TS (WG a b (-1))=some (OH a b 0):=by
 simp -implicitDefEqProofs[TS,WG,OH,f181]
theorem Lh (n:Nat)(a b:List Nat)(k:Nat)(hk:k<=1000000000)(la:a.length<=1000000000)(lb:b.length<=1000000000)(ha:bK a)(hb:bK b) :
  EX E0 (n+60) TS (WG a b k)=if bu a k=bu b k then some (.norm,WG a b ((k:Int)-1)) else some (OH a b (k+1)):=by
 have h1:=fun m=>jo m a la k hk ha
 have h2:=fun m=>jo m b lb k hk hb
 have xa:=bU ha k;have xb:=bU hb k;have hdec:ak .i64 ((k:Int)-1)=(k:Int)-1:=wrap_i64 (by omega);have hk0:(0:Int)<=(k:Int):=by omega
 unfold OH WG;simp only[LD]at h1 h2 ⊢;generalize bu a k=x,bu b k=y at*
 by_cases hxy:x=y
 ·subst hxy;simp -implicitDefEqProofs[TS,f181,h1,h2,hdec,hk0]
 ·have hne:((x:Int) != (y:Int))=true:=by simp;omega
  rw[if_neg hxy,if_neg hxy]
  by_cases hlt:x<y
  ·have hs:ak .u64 ((x:Int)-(y:Int))=18446744073709551616+(x:Int)-(y:Int):=by rw[fe];omega
   have hd:Int.fdiv (18446744073709551616+(x:Int)-(y:Int)) 9223372036854775808=1:=by rw[Int.fdiv_eq_ediv_of_nonneg _ (by omega)];omega
   have w1:ak .i64 1=1:=wrap_i64 (by omega);have w2:ak .i64 2=2:=wrap_i64 (by omega);have w3:ak .i64 (-1)=-1:=wrap_i64 (by omega);simp -implicitDefEqProofs[IntKind.bits,TS,f181,h1,h2,hk0,hne,hs,hd,hlt,w1,w2,w3]
  ·have hs:ak .u64 ((x:Int)-(y:Int))=(x:Int)-(y:Int):=wrap_u64 (by omega);have hd:Int.fdiv ((x:Int)-(y:Int)) 9223372036854775808=0:=by rw[Int.fdiv_eq_ediv_of_nonneg _ (by omega)];omega
   have w1:ak .i64 1=1:=wrap_i64 (by omega);have w0:ak .i64 0=0:=wrap_i64 (by omega);simp -implicitDefEqProofs[IntKind.bits,TS,f181,h1,h2,hk0,hne,hs,hd,hlt,w1,w0]
theorem vR (a b:List Nat):∀ k,(OH a b k=(.exit 0,(st0 [.d (LD a),.d (LD b),.u,.d (.v (.int .i64 (-1))),.u,.u,.d (.v (.bool false)),.u] []))/\Dy a b k=0) \/
  OH a b k=(.ret,(st0 [.u,.u,.d (.v (.int .i64 (Dy a b k))),.u,.u,.u,.u,.u] []))
 | 0=>.inl ⟨rfl,rfl⟩
 | k+1=>by
  unfold OH Dy
  by_cases h:bu a k=bu b k
  ·rw[if_pos h,if_pos h];exact vR a b k
  ·rw[if_neg h,if_neg h];exact .inr rfl
theorem XQ (a b:List Nat)(k:Nat):(OH a b k).1≠.norm:=by
 rcases vR a b k with ⟨h,_⟩|h<;>rw[h]<;>intro h<;>cases h
theorem E9 (a b:List Nat)(la:a.length<=1000000000)(lb:b.length<=1000000000)(ha:bK a)(hb:bK b):∀ (k:Nat),k<=1000000001->Ex E0 (.loop TS) (WG a b ((k:Int)-1)) (OH a b k)
 | 0,_=>Ex.out (Ex.of (n:=60) (H9 0 a b)) (by intro h;cases h)
 | k+1,hk=>by
  have hr:=Lh 0 a b k (by omega) la lb ha hb;rw[show(((k+1:Nat):Int)-1)=(k:Int) by omega]
  by_cases h:bu a k=bu b k
  ·rw[if_pos h]at hr;have:=E9 a b la lb ha hb k (by omega);unfold OH;rw[if_pos h];exact Ex.next (Ex.of hr) this
  ·rw[if_neg h]at hr;exact Ex.leave (Ex.of hr) (XQ a b (k+1))
theorem TU (a b:List Nat)(la:a.length<=1000000000)(lb:b.length<=1000000000)(ha:bK a)(hb:bK b) :
  Ca E0 XP [.d (LD a),.d (LD b)] (.d (.v (.int .i64 (Dy a b (max a.length b.length)))),none):=by
 have hl:=E9 a b la lb ha hb (max a.length b.length) (by omega);have hA:Ex E0 cmA (st0 [.d (LD a),.d (LD b),.u,.u,.u,.u,.u,.u] []) (.norm,(st0 [.d (LD a),.d (LD b),.u,.u,.u,.u,.u,.u] [])) :=
  Ex.of (n:=40) (by simp -implicitDefEqProofs[cmA,f181])
 have hmax:(if a.length<b.length then(b.length:Int) else(a.length:Int))=((max a.length b.length:Nat):Int):=by split<;>omega
 have hw:ak .i64 (((max a.length b.length:Nat):Int)-1)=((max a.length b.length:Nat):Int)-1:=wrap_i64 (by omega);have rY:(LL a).length=a.length:=by simp[LL]
 have Bn:(LL b).length=b.length:=by simp[LL]
 have hA2:Ex E0 TT (st0 [.d (LD a),.d (LD b),.u,.u,.u,.u,.u,.u] []) (.norm,WG a b (((max a.length b.length:Nat):Int)-1)):=by
  refine Ex.of (n:=40) ?_;unfold WG LD;generalize max a.length b.length=mm at*;simp -implicitDefEqProofs[TT,f181,rY,Bn,hmax,hw]
 rcases vR a b (max a.length b.length) with ⟨h,h0⟩|h
 ·rw[h]at hl;rw[h0];refine Ca.body (o:=.ret) (st1:=(st0 [.u,.u,.d (.v (.int .i64 0)),.u,.u,.u,.u,.u] [])) rfl (k181:E0.fn _=_) rfl ?_ (by intro id h;cases h) ?_
  ·show Ex E0 (.seq cmA (.seq (.seq TT (.block 0 (.loop TS))) cmC)) _ _;refine hA.seq ((hA2.seq hl.block).seq (Ex.of (n:=40) ?_));simp -implicitDefEqProofs[cmC,f181]
  ·simp -implicitDefEqProofs[f181]
 ·rw[h]at hl;refine Ca.body (o:=.ret) (st1:=(st0 [.u,.u,.d (.v (.int .i64 (Dy a b (max a.length b.length)))),.u,.u,.u,.u,.u] [])) rfl (k181:E0.fn _=_) rfl ?_ (by intro id h;cases h) ?_
  ·show Ex E0 (.seq cmA (.seq (.seq TT (.block 0 (.loop TS))) cmC)) _ _;refine hA.seq (Ex.bD (hA2.seq hl.bf))
  ·simp -implicitDefEqProofs[f181]
def dx (x y:Nat):Int:=if x<y then -1 else if x=y then 0 else 1
theorem E_ {a b:List Nat}(ha:bK a)(hb:bK b):∀ k,Dy a b k=dx (bQ a k) (bQ b k)
 | 0=>by simp[Dy,dx,bQ,val]
 | k+1=>by
  rw[Dy,E_ ha hb k,dI,dI];have h1:=mK ha k;have h2:=mK hb k;unfold dx
  by_cases h:bu a k=bu b k
  ·rw[if_pos h,h];generalize 4294967296 ^ k*bu b k=p
   by_cases h3:bQ a k<bQ b k
   ·rw[if_pos h3,if_pos (by omega)]
   ·by_cases h4:bQ a k=bQ b k
    ·rw[if_neg h3,if_pos h4,if_neg (by omega),if_pos (by omega)]
    ·rw[if_neg h3,if_neg h4,if_neg (by omega),if_neg (by omega)]
  ·rw[if_neg h]
   by_cases h3:bu a k<bu b k
   ·have:=iR (vb:=bQ b k) h1 h3;rw[if_pos h3];generalize 4294967296 ^ k*bu a k=p,4294967296 ^ k*bu b k=q at*;rw[if_pos this]
   ·have:=iR (vb:=bQ a k) h2 (show bu b k<bu a k by omega);rw[if_neg h3];generalize 4294967296 ^ k*bu a k=p,4294967296 ^ k*bu b k=q at*;rw[if_neg (by omega),if_neg (by omega)]
theorem vS (a b:List Nat)(la:a.length<=1000000000)(lb:b.length<=1000000000)(ha:bK a)(hb:bK b) :
  Ca E0 XP [.d (LD a),.d (LD b)] (.d (.v (.int .i64 (dx (val a) (val b)))),none):=by
 have h:=TU a b la lb ha hb;rw[E_ ha hb,eD (by omega),eD (by omega)]at h;exact h
abbrev WH:Nat:=228
abbrev BS:ai:=f228
def TV:aD:=match BS.body with
 | .seq _ (.seq _ (.seq _ (.seq (.seq _ (.block _ (.loop b))) _)))=>b
 | _=>.skip
def aa4:aD:=match BS.body with
 | .seq a _=>a
 | _=>.skip
def aa5:aD:=match BS.body with
 | .seq _ (.seq a _)=>a
 | _=>.skip
def aa6:aD:=match BS.body with
 | .seq _ (.seq _ (.seq a _))=>a
 | _=>.skip
def aa7:aD:=match BS.body with
 | .seq _ (.seq _ (.seq _ (.seq (.seq a (.block _ (.loop _))) _)))=>a
 | _=>.skip
def plC:aD:=match BS.body with
 | .seq _ (.seq _ (.seq _ (.seq (.seq _ (.block _ (.loop _))) c)))=>c
 | _=>.skip
def dB (k:Nat):FV:=if k=0 then .d (.n 1) else .ls (.loc 0) (k-1) 1 0 k
def dC (k:Nat)(o:List D):List ae:=if k=0 then [] else [.row (k-1) 1 o]
def S_ (a b o:List Nat)(k s:Nat)(t:FV):St:=(st0 [.d (LD a),.d (LD b),.u,dB k,.d (.v (.int .u64 s)),.d (.v (.int .i64 k)),t] (dC k (LL o)))
theorem H_ (n:Nat)(a b o:List Nat)(k s:Nat)(hk:k<=1000000000)(la:a.length<=1000000000)(lb:b.length<=1000000000)(ha:bK a)(hb:bK b)(ho:o.length=k)(hs:s<4294967296) :
  EX E0 (n+60) TV (S_ a b o k s .u)=if k<max a.length b.length\/0<s then some (.norm,S_ a b (o++[(s+(bu a k+bu b k)) % 4294967296]) (k+1) ((s+(bu a k+bu b k)) / 4294967296) .u)
   else some (.exit 0,S_ a b o k s (.d (.v (.bool false)))):=by
 have h1:=fun m=>jo m a la k hk ha
 have h2:=fun m=>jo m b lb k hk hb
 have xa:=bU ha k;have xb:=bU hb k;have rY:(LL a).length=a.length:=by simp[LL]
 have Bn:(LL b).length=b.length:=by simp[LL]
 have hmax:(if a.length<b.length then(b.length:Int) else(a.length:Int))=((max a.length b.length:Nat):Int):=by split<;>omega
 simp only[LD]at h1 h2;have aR:ak .i64 ((k:Int)+1)=(k:Int)+1:=wrap_i64 (by omega);generalize bu a k=x,bu b k=y at*;have w1:ak .u64 ((x:Int)+(y:Int))=(x:Int)+(y:Int):=wrap_u64 (by omega);have w2:ak .u64 ((s:Int)+((x:Int)+(y:Int)))=(s:Int)+((x:Int)+(y:Int)):=wrap_u64 (by omega);have w3:ak .u32 ((s:Int)+((x:Int)+(y:Int)))=((s:Int)+((x:Int)+(y:Int))) % 4294967296:=cZ _;have w4:Int.fdiv ((s:Int)+((x:Int)+(y:Int))) 4294967296=((s:Int)+((x:Int)+(y:Int))) / 4294967296:=Int.fdiv_eq_ediv_of_nonneg _ (by omega);have NY:LL (o++[(s+(x+y)) % 4294967296])=LL o++[.v (.int .u32 (((s:Int)+((x:Int)+(y:Int))) % 4294967296))]:=by simp[LL]
 have hol:(LL o).length=k:=by simp[LL,ho]
 have hv1:dB (k+1)=.ls (.loc 0) k 1 0 (k+1):=by simp[dB]
 have Br:∀ l,dC (k+1) l=[.row k 1 l]:=by intro l;simp[dC]
 have hm1:(k+1)*4<=most:=by simp[most];omega
 have hm2:k+1<=most:=by simp[most];omega
 have htk:(LL o).take k=LL o:=List.take_of_length_le (by omega);have hk1:((k+1:Nat):Int)=(k:Int)+1:=by omega
 have hs1:(((s+(x+y)) / 4294967296:Nat):Int)=((s:Int)+((x:Int)+(y:Int))) / 4294967296:=by omega
 unfold S_;rw[NY,hv1,Br,hk1,hs1]
 by_cases hk0:k=0
 ·have hv:dB k=.d (.n 1):=by simp[dB,hk0]
  have hh:∀ l,dC k l=[]:=by intro l;simp[dC,hk0]
  have ho0:o=[]:=List.eq_nil_of_length_eq_zero (by omega);have hLo:LL o=[]:=by rw[ho0];rfl
  have hm3:1*4<=most:=by simp[most]
  have hm4:1<=most:=by simp[most]
  have hvk:FV.ls (.loc 0) 0 1 0 1=FV.ls (.loc 0) k 1 0 (k+1):=by rw[hk0]
  have hhk:∀ l,ae.row 0 1 l=ae.row k 1 l:=by intro l;rw[hk0]
  rw[hv,hh,hLo,<-hvk,<-hhk];generalize max a.length b.length=mm at*
  by_cases hc:k<mm
  ·rw[if_pos (.inl hc)];simp -implicitDefEqProofs[IntKind.bits,TV,f228,LD,rY,Bn,hmax,hc,h1,h2,aR,w1,w2,w3,w4,hm4,most]
  ·by_cases hs0:0<s
   ·rw[if_pos (.inr hs0)];simp -implicitDefEqProofs[IntKind.bits,TV,f228,LD,rY,Bn,hmax,hc,hs0,h1,h2,aR,w1,w2,w3,w4,hm4,most]
   ·rw[if_neg (by omega)];simp -implicitDefEqProofs[IntKind.bits,TV,f228,LD,rY,Bn,hmax,hc,hs0]
 ·have hv:dB k=.ls (.loc 0) (k-1) 1 0 k:=by simp[dB,hk0]
  have hh:∀ l,dC k l=[.row (k-1) 1 l]:=by intro l;simp[dC,hk0]
  have hk2:k-1+1=k:=by omega
  rw[hv,hh];generalize max a.length b.length=mm at*
  by_cases hc:k<mm
  ·rw[if_pos (.inl hc)];simp -implicitDefEqProofs[IntKind.bits,TV,f228,LD,rY,Bn,hmax,hc,h1,h2,aR,w1,w2,w3,w4,hm1,hm2,hol,htk,hk2]
  ·by_cases hs0:0<s
   ·rw[if_pos (.inr hs0)];simp -implicitDefEqProofs[IntKind.bits,TV,f228,LD,rY,Bn,hmax,hc,hs0,h1,h2,aR,w1,w2,w3,w4,hm1,hm2,hol,htk,hk2]
   ·rw[if_neg (by omega)];simp -implicitDefEqProofs[IntKind.bits,TV,f228,LD,rY,Bn,hmax,hc,hs0]
def plI (a b:List Nat)(t:List Nat × Nat × Nat):Prop :=
 t.1.length=t.2.1/\t.2.1<=max a.length b.length+1/\(t.2.1=max a.length b.length+1->t.2.2=0)/\t.2.2<4294967296/\bK t.1 /\
 val t.1+4294967296 ^ t.2.1*(t.2.2+val (a.drop t.2.1)+val (b.drop t.2.1))=val a+val b
theorem BU {P s x y va vb vo d c:Nat}(h:s+(x+y)=d+4294967296*c) :
  vo+P*d+P*4294967296*(c+va+vb)=vo+P*(s+(x+4294967296*va)+(y+4294967296*vb)):=by grind
theorem Li (a b:List Nat)(la:a.length<=100000000)(lb:b.length<=100000000)(ha:bK a)(hb:bK b) :
  ∃ r,Ex E0 (.loop TV) (S_ a b [] 0 0 .u) r/\∃ o,bK o/\val o=val a+val b/\o.length<=max a.length b.length+1/\r=(.exit 0,S_ a b o o.length 0 (.d (.v (.bool false)))):=by
 refine Ex.inv (S:=fun t:List Nat × Nat × Nat=>S_ a b t.1 t.2.1 t.2.2 .u) (fun t=>max a.length b.length+2-t.2.1) (plI a b) _ ?_ ([],0,0) ?_
 ·rintro⟨o,k,s⟩ ⟨h1,h2,h3,h4,h5,h6⟩;simp only at h1 h2 h3 h4 h5 h6;have hr:=H_ 0 a b o k s (by omega) (by omega) (by omega) ha hb h1 h4;have xa:=bU ha k;have xb:=bU hb k
  by_cases hc:k<max a.length b.length\/0<s
  ·rw[if_pos hc]at hr;have hk:k<max a.length b.length+1:=by
    rcases hc with hc|hc
    ·omega
    ·rcases Nat.lt_or_ge k (max a.length b.length+1) with h|h
     ·exact h
     ·have:=h3 (by omega);omega
   refine .inl ⟨(o++[(s+(bu a k+bu b k)) % 4294967296],k+1,(s+(bu a k+bu b k)) / 4294967296),Ex.of hr,by simp only;omega,?_,?_,?_,?_,?_,?_⟩
   ·simp[h1]
   ·simp only;omega
   ·intro he;simp only at he ⊢;have e1:bu a k=0:=by unfold bu;rw[List.getElem?_eq_none (by omega)];rfl
    have e2:bu b k=0:=by unfold bu;rw[List.getElem?_eq_none (by omega)];rfl
    rw[e1,e2];omega
   ·simp only;omega
   ·exact gm h5 (fun x hx=>by simp at hx;subst hx;exact Nat.mod_lt _ (by omega))
   ·simp only;rw[val_append,h1,Nat.pow_succ,<-h6,ib a k,ib b k];have hv:val [(s+(bu a k+bu b k)) % 4294967296]=(s+(bu a k+bu b k)) % 4294967296:=by simp[val]
    rw[hv];exact BU (by omega)
  ·rw[if_neg hc]at hr;refine .inr ⟨_,Ex.of hr,(by simp),o,h5,?_,by omega,?_⟩
   ·rw[gp (by omega),gp (by omega)]at h6;have:s=0:=by omega
    subst this;simpa using h6
   ·have:s=0:=by omega
    subst this;rw[h1]
 ·refine⟨rfl,by simp,?_,by simp,?_,?_⟩
  ·simp
  ·intro x hx;cases hx
  ·simp[val]
theorem TW (a b:List Nat)(la:a.length<=100000000)(lb:b.length<=100000000)(ha:bK a)(hb:bK b) :
  Ca E0 WH [.d (LD a),.d (LD b)] (.d (LD (enc (val a+val b))),none):=by
 obtain⟨r,hl,o,ho,hv,hol,rfl⟩:=Li a b la lb ha hb;obtain⟨n0,hc⟩:=(f_ o (by omega)).get;rw[bS ho,hv]at hc;have hlo:(LL o).length=o.length:=by simp[LL]
 generalize enc (val a+val b)=res at*;refine Ca.body (o:=.ret) (st1:=(st0 [.u,.u,.d (LD res),.u,.u,.u,.u] (if o.length=0 then [] else [.fM (o.length-1) 1 (LL o)]))) rfl (k228:E0.fn _=_) rfl ?_ (by intro id h;cases h) ?_
 ·show Ex E0 (.seq aa4 (.seq aa5 (.seq aa6 (.seq (.seq aa7 (.block 0 (.loop TV))) plC)))) _ _;refine Ex.seq (st1:=(st0 [.d (LD a),.d (LD b),.u,.u,.u,.u,.u] [])) (Ex.of (n:=40) ?_)
   (Ex.seq (st1:=(st0 [.d (LD a),.d (LD b),.u,.d (.n 1),.u,.u,.u] [])) (Ex.of (n:=40) ?_)
   (Ex.seq (st1:=(st0 [.d (LD a),.d (LD b),.u,.d (.n 1),.d (.v (.int .u64 0)),.u,.u] [])) (Ex.of (n:=40) ?_)
   (Ex.seq (Ex.seq (st1:=S_ a b [] 0 0 .u) (Ex.of (n:=40) ?_) hl.block) (Ex.of (n:=n0+40) ?_))))
  ·simp -implicitDefEqProofs[aa4,f228]
  ·simp -implicitDefEqProofs[aa5,f228]
  ·simp -implicitDefEqProofs[aa6,f228]
  ·simp -implicitDefEqProofs[aa7,S_,dB,dC,f228]
  ·unfold S_;simp only[LD]at hc ⊢
   by_cases hk0:o.length=0
   ·have hLo:LL o=[]:=List.eq_nil_of_length_eq_zero (by omega);have hv1:dB o.length=.d (.n 1):=by simp[dB,hk0]
    have Br:∀ l,dC o.length l=[]:=by intro l;simp[dC,hk0]
    rw[if_pos hk0,hv1,Br];rw[hLo]at hc;clear hl;simp -implicitDefEqProofs[plC,f228,hc]
   ·have htk:(LL o).take o.length=LL o:=List.take_of_length_le (by omega);have hv1:dB o.length=.ls (.loc 0) (o.length-1) 1 0 o.length:=by simp[dB,hk0]
    have Br:∀ l,dC o.length l=[.row (o.length-1) 1 l]:=by intro l;simp[dC,hk0]
    rw[if_neg hk0,hv1,Br];clear hl;generalize LL o=es,o.length=k at*;simp -implicitDefEqProofs[ae.view,plC,f228,hlo,htk,hc]
 ·simp -implicitDefEqProofs[f228,LD]
abbrev OI:Nat:=229
abbrev vT:ai:=f229
def miB:aD:=vT.body.r.r.r.l.r.bl.lp
def OJ (a b:List Nat)(es:List D)(n k s:Nat)(t:FV):St:=(st0 [.d (LD a),.d (LD b),.u,.ls (.loc 0) 0 1 0 n,.d (.v (.int .u64 s)),.u,.u,.d (.v (.int .i64 n)),.d (.v (.int .i64 k)),t] [.row 0 1 es])
theorem Lj (n:Nat)(a b:List Nat)(es:List D)(k s:Nat):EX E0 (n+60) miB (OJ a b es k k s .u)=some (.exit 0,OJ a b es k k s (.d (.v (.bool false)))):=by
 unfold OJ;simp -implicitDefEqProofs[miB,f229]
theorem Fa (n:Nat)(a b:List Nat)(es:List D)(l k s s' d:Nat)(hk:k<l)(hl:l<=1000000000)(la:a.length<=1000000000)(lb:b.length<=1000000000)(ha:bK a)(hb:bK b)(hs:s<=1)(he:es.length=l)
  (hz:es[k]?=some (.v (.int .u32 0))) (hd:d<4294967296) (hs':s'<=1) (hdig:bu a k+4294967296*s'=d+bu b k+s) :
  EX E0 (n+60) miB (OJ a b es l k s .u)=some (.norm,OJ a b (es.set k (.v (.int .u32 (d:Int)))) l (k+1) s' .u):=by
 have h1:=fun m=>jo m a la k (by omega) ha
 have h2:=fun m=>jo m b lb k (by omega) hb
 have xa:=bU ha k;have xb:=bU hb k;simp only[LD]at h1 h2;have aR:ak .i64 ((k:Int)+1)=(k:Int)+1:=wrap_i64 (by omega);generalize bu a k=x,bu b k=y at*;have hk':(k:Int)<(l:Int):=by omega
 have hk1:((k+1:Nat):Int)=(k:Int)+1:=by omega
 have w1:ak .u64 (ak .u64 ((x:Int)-(y:Int))-(s:Int))=((x:Int)-(y:Int)-(s:Int)) % 18446744073709551616:=by rw[fe,fe];omega
 have w3:ak .u32 (((x:Int)-(y:Int)-(s:Int)) % 18446744073709551616)=(d:Int):=by rw[cZ];omega
 have w4:Int.fdiv (((x:Int)-(y:Int)-(s:Int)) % 18446744073709551616) 9223372036854775808=(s':Int):=by rw[Int.fdiv_eq_ediv_of_nonneg _ (by omega)];omega
 have hz2:=idx hz;unfold OJ;rw[hk1];simp -implicitDefEqProofs[IntKind.bits,miB,f229,LD,hk',h1,h2,aR,w1,w3,w4,hz,hz2]
def miI (a b:List Nat)(t:List Nat × Nat):Prop :=
 t.1.length<=a.length/\t.2<=1/\bK t.1/\bQ a t.1.length+4294967296 ^ t.1.length*t.2=val t.1+bQ b t.1.length
theorem yU {P x y va vb vo s d s':Nat}(h:va+P*s=vo+vb)(hd:x+4294967296*s'=d+y+s):va+P*x+P*4294967296*s'=vo+P*d+(vb+P*y):=by
 have:P*x+P*4294967296*s'=P*d+P*y+P*s:=by
  rw[Nat.mul_assoc,<-Nat.mul_add,<-Nat.mul_add,<-Nat.mul_add,hd]
 omega
theorem Ia (a b:List Nat)(la:a.length<=1000000000)(lb:b.length<=a.length)(ha:bK a)(hb:bK b)(hab:val b<=val a) :
  ∃ r,Ex E0 (.loop miB) (OJ a b (LL (row0 [] a.length)) a.length 0 0 .u) r/\∃ o,bK o/\val o=val a-val b/\o.length=a.length/\r=(.exit 0,OJ a b (LL o) a.length a.length 0 (.d (.v (.bool false)))):=by
 refine Ex.inv (S:=fun t:List Nat × Nat=>OJ a b (LL (row0 t.1 (a.length-t.1.length))) a.length t.1.length t.2 .u) (fun t=>a.length-t.1.length) (miI a b) _ ?_ ([],0) ?_
 ·rintro⟨o,s⟩ ⟨h1,h2,h3,h4⟩;simp only at h1 h2 h3 h4;have xa:=bU ha o.length;have xb:=bU hb o.length
  by_cases hk:o.length<a.length
  ·obtain⟨m,hm⟩:∃ m,a.length-o.length=m+1:=⟨a.length-o.length-1,by omega⟩
   obtain⟨d,s',hd,hs',hdig⟩:∃ d s',d<4294967296/\s'<=1/\bu a o.length+4294967296*s'=d+bu b o.length+s:=by
    by_cases hc:bu b o.length+s<=bu a o.length
    ·exact⟨bu a o.length-(bu b o.length+s),0,by omega,by omega,by omega⟩
    ·exact⟨bu a o.length+4294967296-(bu b o.length+s),1,by omega,by omega,by omega⟩
   have hr:=Fa 0 a b (LL (row0 o (m+1))) a.length o.length s s' d hk la la (by omega) ha hb h2 (by rw[oZ];omega) (J8 o m) hd hs' hdig;rw[Fb]at hr;refine .inl ⟨(o++[d],s'),?_,?_,?_,?_,?_,?_⟩
   ·simp only[hm,List.length_append,List.length_cons,List.length_nil];rw[show a.length-(o.length+(0+1))=m by omega];exact Ex.of hr
   ·simp only[List.length_append,List.length_cons,List.length_nil];omega
   ·simp only[List.length_append,List.length_cons,List.length_nil];omega
   ·exact hs'
   ·exact gm h3 (fun x hx=>by simp at hx;subst hx;exact hd)
   ·simp only[List.length_append,List.length_cons,List.length_nil,Nat.zero_add];rw[dI,dI,val_append,Nat.pow_succ];have hv:val [d]=d:=by simp[val]
    rw[hv];exact yU h4 hdig
  ·have he:o.length=a.length:=by omega
   rw[he,eD (Nat.le_refl _),eD lb]at h4;have hlt:=mE h3;rw[he]at hlt;have hs0:s=0:=by
    rcases Nat.lt_or_ge s 1 with h|h
    ·omega
    ·have:s=1:=by omega
     subst this;generalize 4294967296 ^ a.length=p at*;omega
   subst hs0;refine .inr ⟨_,?_,?_,o,h3,by omega,he,rfl⟩
   ·simp only[he,Nat.sub_self,BV];exact Ex.of (Lj 0 a b (LL o) a.length 0)
   ·simp
 ·refine⟨by simp,by simp,?_,?_⟩
  ·intro x hx;cases hx
  ·simp[val,bQ]
theorem yV (a b:List Nat)(la:a.length<=1000000000)(lb:b.length<=a.length)(ha:bK a)(hb:bK b)(hab:val b<=val a) :
  Ca E0 OI [.d (LD a),.d (LD b)] (.d (LD (enc (val a-val b))),none):=by
 obtain⟨r,hl,o,ho,hv,hol,rfl⟩:=Ia a b la lb ha hb hab;obtain⟨n0,hc⟩:=(f_ o (by omega)).get;rw[bS ho,hv]at hc;have hlo:(LL o).length=a.length:=by simp[LL,hol]
 have hla:(LL a).length=a.length:=by simp[LL]
 have htk:(LL o).take a.length=LL o:=List.take_of_length_le (by omega);have hz:=uk a.length;generalize enc (val a-val b)=res at*;refine Ca.body (o:=.ret) (st1:=(st0 [.u,.u,.d (LD res),.u,.u,.u,.u,.u,.u,.u] [.fM 0 1 (LL o)])) rfl (k229:E0.fn _=_) rfl ?_ (by intro id h;cases h) ?_
 ·show Ex E0 (.seq vT.body.l (.seq vT.body.r.l (.seq vT.body.r.r.l (.seq (.seq vT.body.r.r.r.l.l (.block 0 (.loop miB))) vT.body.r.r.r.r)))) _ _;refine Ex.seq (st1:=(st0 [.d (LD a),.d (LD b),.u,.u,.u,.u,.u,.u,.u,.u] [])) (Ex.of (n:=40) ?_)
   (Ex.seq (st1:=(st0 [.d (LD a),.d (LD b),.u,.ls (.loc 0) 0 1 0 a.length,.u,.u,.u,.u,.u,.u] [.row 0 1 (LL (row0 [] a.length))])) (Ex.of (n:=40) ?_)
   (Ex.seq (st1:=(st0 [.d (LD a),.d (LD b),.u,.ls (.loc 0) 0 1 0 a.length,.d (.v (.int .u64 0)),.u,.u,.u,.u,.u] [.row 0 1 (LL (row0 [] a.length))])) (Ex.of (n:=40) ?_)
   (Ex.seq (Ex.seq (Ex.of (n:=40) ?_) hl.block) (Ex.of (n:=n0+40) ?_))))
  ·simp -implicitDefEqProofs[f229]
  ·have hm1:(a.length:Int)*4<=1099511627776:=by omega
   have hm2:(a.length:Int)<=1099511627776:=by omega
   rw[hz];simp -implicitDefEqProofs[f229,LD,hla,hm1,hm2,most]
  ·simp -implicitDefEqProofs[f229]
  ·unfold OJ;simp -implicitDefEqProofs[f229,LD,hla]
  ·unfold OJ;simp only[LD]at hc ⊢;clear hl;generalize LL o=es at*;simp -implicitDefEqProofs[ae.view,f229,hlo,htk,hc]
 ·simp -implicitDefEqProofs[f229,LD]
abbrev XR:Nat:=233
abbrev yX:ai:=f233
theorem OL {r:Nat}(hr:r<4294967296):Ib .u64 (r:Int) 32=(r:Int)*4294967296:=by
 rw[yo,<-bV];have h:(2:Int) ^ (min (Int.toNat 32) (IntKind.bits .u64))=4294967296:=by rfl
 rw[h,wrap_u64 (by omega)]
theorem yY {r x:Nat}(hr:r<4294967296)(hx:x<4294967296) :
  Fe .u64 ((r:Int)*4294967296) (x:Int)=(r:Int)*4294967296+(x:Int):=by
 rw[vU,<-bV]
 change ak .u64 ((BitVec.ofInt 64 ((r:Int)*4294967296) ||| BitVec.ofInt 64 (x:Int)).toNat:Int)=_
 rw[BitVec.ofInt_natCast];have hs:r <<< 32=r*4294967296:=by rw[Nat.shiftLeft_eq]
 have h0:((r:Int)*(4294967296:Int))=((r <<< 32:Nat):Int):=by rw[hs];omega
 have e1:BitVec.ofInt 64 ((r:Int)*(4294967296:Int))=BitVec.ofNat 64 (r <<< 32):=by
  rw[h0,BitVec.ofInt_natCast]
 have l1:r <<< 32<2 ^ 64:=by rw[hs];omega
 have l2:x<2 ^ 64:=by omega
 have l3:x<2 ^ 32:=by omega
 rw[e1,BitVec.toNat_or,BitVec.toNat_ofNat,BitVec.toNat_ofNat,Nat.mod_eq_of_lt l1,Nat.mod_eq_of_lt l2,<-Nat.shiftLeft_add_eq_or_of_lt l3,hs];rw[wrap_u64 (by omega)];omega
theorem xg {r d x B:Nat}(hr:r<d)(hx:x<B):(r*B+x) / d<B:=by
 rw[Nat.div_lt_iff_lt_mul (by omega)];have h1:=Nat.mul_le_mul_right B hr;rw[Nat.succ_mul]at h1;rw[Nat.mul_comm B d];omega
def smB:aD:=yX.body.r.r.l.r.bl.lp
def OM (a:List Nat)(es:List D)(d n:Nat)(k:Int)(r:Nat)(t:FV):St:=(st0 [.d (LD a),.d (.v (.int .u32 d)),.u,.u,.ls (.loc 0) 0 1 0 n,.d (.v (.int .u64 r)),.d (.v (.int .i64 k)),t] [.row 0 1 es])
theorem Ll (n:Nat)(a:List Nat)(es:List D)(d l r:Nat):EX E0 (n+60) smB (OM a es d l (-1) r .u)=some (.exit 0,OM a es d l (-1) r (.d (.v (.bool false)))):=by
 unfold OM;simp -implicitDefEqProofs[smB,f233]
theorem Ff (n:Nat)(a:List Nat)(es:List D)(l d k r x:Nat)(hk:k<l)(hl:l<=1000000000)(hx:a[k]?=some x)(hx32:x<4294967296)(hd:d<4294967296)(hr:r<d)(he:es.length=l)
  (hz:es[k]?=some (.v (.int .u32 0))) :
  EX E0 (n+60) smB (OM a es d l k r .u)=some (.norm,OM a (es.set k (.v (.int .u32 (((r*4294967296+x) / d:Nat):Int)))) d l ((k:Int)-1) ((r*4294967296+x) % d) .u):=by
 have hdec:ak .i64 ((k:Int)-1)=(k:Int)-1:=wrap_i64 (by omega);have hk0:(0:Int)<=(k:Int):=by omega
 have hk':k<l:=hk;have hxa:(LL a)[k]?=some (.v (.int .u32 (x:Int))):=by simp[LL,hx]
 have ad4:=idx hxa;have hz2:=idx hz;have hla:k<a.length:=(aT hx)
 have hq:(r*4294967296+x) / d<4294967296:=xg hr hx32;have hm:(r*4294967296+x) % d<d:=Nat.mod_lt _ (by omega);have w2:ak .u64 (x:Int)=(x:Int):=wrap_u64 (by omega);have w4:ak .u64 (d:Int)=(d:Int):=wrap_u64 (by omega);have hd0:¬ ((d:Int)=0):=by omega
 have TY:¬ d=0:=by omega
 obtain⟨R,hR⟩:∃ R:Nat,R=r*4294967296:=⟨_,rfl⟩
 obtain⟨Y,hY⟩:∃ Y:Nat,Y=r*4294967296+x:=⟨_,rfl⟩
 have w1:Ib .u64 (r:Int) 32=(R:Int):=by rw[OL (by omega)];omega
 have w3:Fe .u64 (R:Int) (x:Int)=(Y:Int):=by
  have:=yY (r:=r) (x:=x) (by omega) hx32;rw[show(R:Int)=(r:Int)*4294967296 by omega,this];omega
 rw[<-hY]at hq hm ⊢;clear hY hR;have w5:Int.tdiv (Y:Int) (d:Int)=((Y / d:Nat):Int):=by rw[Int.tdiv_eq_ediv_of_nonneg (by omega),Int.natCast_ediv]
 have w6:Int.tmod (Y:Int) (d:Int)=((Y % d:Nat):Int):=by rw[Int.tmod_eq_emod_of_nonneg (by omega),Int.natCast_emod]
 generalize Y / d=qq,Y % d=mm at*;have w7:ak .u64 (qq:Int)=(qq:Int):=wrap_u64 (by omega);have w8:ak .u32 (qq:Int)=(qq:Int):=wrap_u32 (by omega);unfold OM;simp only[LD];generalize LL a=xs at*;simp -implicitDefEqProofs[IntKind.bits,smB,f233,hk',hk0,hdec,hxa,ad4,hz,hz2,w1,w2,w3,w4,w5,w6,w7,w8,hd0,TY]
def jf (m:Nat)(q:List Nat):List Nat:=List.replicate m 0++q
theorem J9 (q:List Nat)(m:Nat):(LL (jf (m+1) q))[m]?=some (.v (.int .u32 0)):=by
 simp[LL,jf,List.getElem?_append_left]
theorem Fg (q:List Nat)(m v:Nat):(LL (jf (m+1) q)).set m (.v (.int .u32 (v:Int)))=LL (jf m (v::q)):=by
 simp only[LL,jf,List.map_append,List.map_replicate,List.replicate_succ',List.append_assoc];rw[List.set_append_right _ _ (by simp)];simp
theorem o7 (q:List Nat)(m:Nat):(LL (jf m q)).length=m+q.length:=by simp[LL,jf]
def smI (a:List Nat)(d:Nat)(t:Nat × List Nat × Nat):Prop :=
 t.1<=a.length/\t.1+t.2.1.length=a.length/\t.2.2<d/\bK t.2.1/\val (a.drop t.1)=val t.2.1*d+t.2.2
theorem Ic {B V d r x Y:Nat}(hY:Y=r*B+x):x+B*(V*d+r)=(Y / d+B*V)*d+Y % d:=by
 have:=Nat.div_add_mod Y d;rw[Nat.add_mul];have e:B*(V*d+r)=B*V*d+r*B:=by rw[Nat.mul_add,Nat.mul_assoc,Nat.mul_comm r B]
 rw[e,Nat.mul_comm (Y / d) d];omega
theorem Ie (a:List Nat)(d:Nat)(la:a.length<=1000000000)(ha:bK a)(hd:d<4294967296)(hd0:0<d) :
  ∃ r,Ex E0 (.loop smB) (OM a (LL (jf a.length [])) d a.length ((a.length:Int)-1) 0 .u) r /\
   ∃ q m,bK q/\q.length=a.length/\val q=val a / d/\m=val a % d/\r=(.exit 0,OM a (LL q) d a.length (-1) m (.d (.v (.bool false)))):=by
 refine Ex.inv (S:=fun t:Nat × List Nat × Nat=>OM a (LL (jf t.1 t.2.1)) d a.length ((t.1:Int)-1) t.2.2 .u) (fun t=>t.1) (smI a d) _ ?_ (a.length,[],0) ?_
 ·rintro⟨k,q,r⟩ ⟨h1,h2,h3,h4,h5⟩;simp only at h1 h2 h3 h4 h5;cases k with
  | zero =>
   refine .inr ⟨_,?_,?_,q,r,h4,by omega,?_,?_,rfl⟩
   ·have:=Ll 0 a (LL q) d a.length r;simpa[jf] using Ex.of this
   ·simp
   ·rw[List.drop_zero]at h5;rw[h5,Nat.mul_comm,Nat.mul_add_div hd0,Nat.div_eq_of_lt h3];rfl
   ·rw[List.drop_zero]at h5;rw[h5,Nat.mul_comm,Nat.mul_add_mod,Nat.mod_eq_of_lt h3]
  | succ k =>
   have hx:a[k]?=some (a[k]'(by omega)):=List.getElem?_eq_getElem (by omega);have hx32:a[k]'(by omega)<4294967296:=ha _ (List.getElem_mem _);have hat:bu a k=a[k]'(by omega):=by simp[bu,hx]
   generalize a[k]'(by omega)=x at hx hx32 hat;have hr:=Ff 0 a (LL (jf (k+1) q)) a.length d k r x (by omega) la hx hx32 hd h3 (by rw[o7];omega) (J9 q k);rw[Fg]at hr;refine .inl ⟨(k,(r*4294967296+x) / d::q,(r*4294967296+x) % d),?_,by simp,?_,?_,?_,?_,?_⟩
   ·simp only;rw[show(((k+1:Nat):Int)-1)=(k:Int) by omega];exact Ex.of hr
   ·simp only;omega
   ·simp only[List.length_cons];omega
   ·exact Nat.mod_lt _ hd0
   ·intro y hy;rcases List.mem_cons.1 hy with rfl|hy
    ·exact xg h3 hx32
    ·exact h4 y hy
   ·simp only[val];rw[ib,hat,h5];exact Ic rfl
 ·refine⟨by simp,by simp,hd0,?_,?_⟩
  ·intro x hx;cases hx
  ·simp[val]
theorem OO (a:List Nat)(d:Nat)(la:a.length<=1000000000)(ha:bK a)(hd:d<4294967296)(hd0:0<d) :
  Ca E0 XR [.d (LD a),.d (.v (.int .u32 d))] (.d (.t [LD (enc (val a / d)),.v (.int .u32 ((val a % d:Nat):Int))]),none):=by
 obtain⟨r,hl,q,m,hq,XT,hv,hm,rfl⟩:=Ie a d la ha hd hd0;obtain⟨n0,hc⟩:=(f_ q (by omega)).get;rw[bS hq,hv]at hc;have hlo:(LL q).length=a.length:=by simp[LL,XT]
 have hla:(LL a).length=a.length:=by simp[LL]
 have htk:(LL q).take a.length=LL q:=List.take_of_length_le (by omega);have hz:LL (jf a.length [])=List.replicate a.length (.v (.int .u32 0)):=by simp[LL,jf]
 have hmd:m<4294967296:=by have:=Nat.mod_lt (val a) hd0;omega
 have hw:ak .u32 (m:Int)=(m:Int):=wrap_u32 (by omega);rw[<-hm];generalize enc (val a / d)=res at*;refine Ca.body (o:=.ret) (st1:=(st0 [.u,.u,.d (LD res),.d (.v (.int .u32 m)),.u,.u,.u,.u] [.fM 0 1 (LL q)])) rfl (k233:E0.fn _=_) rfl ?_ (by intro id h;cases h) ?_
 ·show Ex E0 (.seq yX.body.l (.seq yX.body.r.l (.seq (.seq yX.body.r.r.l.l (.block 0 (.loop smB))) yX.body.r.r.r))) _ _;refine Ex.seq (st1:=(st0 [.d (LD a),.d (.v (.int .u32 d)),.u,.u,.u,.u,.u,.u] [])) (Ex.of (n:=40) ?_)
   (Ex.seq (st1:=(st0 [.d (LD a),.d (.v (.int .u32 d)),.u,.u,.ls (.loc 0) 0 1 0 a.length,.d (.v (.int .u64 0)),.u,.u] [.row 0 1 (LL (jf a.length []))])) (Ex.of (n:=40) ?_)
   (Ex.seq (Ex.seq (Ex.of (n:=40) ?_) hl.block) (Ex.of (n:=n0+40) ?_)))
  ·simp -implicitDefEqProofs[f233]
  ·have hm1:(a.length:Int)*4<=1099511627776:=by omega
   have hm2:(a.length:Int)<=1099511627776:=by omega
   rw[hz];simp -implicitDefEqProofs[f233,LD,hla,hm1,hm2,most]
  ·have hdec:ak .i64 ((a.length:Int)-1)=(a.length:Int)-1:=wrap_i64 (by omega);unfold OM;simp -implicitDefEqProofs[f233,LD,hla,hdec]
  ·unfold OM;simp only[LD]at hc ⊢;clear hl;generalize LL q=es at*;simp -implicitDefEqProofs[ae.view,f233,hlo,htk,hc,hw]
 ·simp -implicitDefEqProofs[f233,LD,mF]
abbrev OP:Nat:=188
abbrev yZ:ai:=f188
theorem yw:∀ (O:List Nat) (m v:Nat),m<O.length->val (O.set m v)+4294967296 ^ m*bu O m=val O+4294967296 ^ m*v
 | [],m,v,h=>by simp at h
 | y::r,0,v,_=>by simp[val,bu];omega
 | y::r,m+1,v,h=>by
  have ih:=yw r m v (by simpa using h);rw[List.set_cons_succ,val,val];have:bu (y::r) (m+1)=bu r m:=by simp[bu]
  rw[this,Nat.pow_succ];generalize 4294967296 ^ m=p,bu r m=q at*;have e1:p*4294967296*q=4294967296*(p*q):=by grind
  have e2:p*4294967296*v=4294967296*(p*v):=by grind
  rw[e1,e2];omega
theorem Dz {O:List Nat}(h:bK O){m v:Nat}(hv:v<4294967296):bK (O.set m v):=by
 intro x hx;rcases List.mem_or_eq_of_mem_set hx with h1|h1
 ·exact h x h1
 ·omega
def DC:aD:=yZ.body.r.r.l.r.bl.lp
def XU:aD:=DC.r.r.l.bl.r.r.r.bl.lp
def OQ (a b O:List Nat)(n i s j:Nat)(t:FV):St:=(st0 [.d (LD a),.d (LD b),.u,.ls (.loc 0) 0 1 0 n,.d (.v (.int .i64 i)),.d (.v (.int .u64 s)),.d (.v (.int .i64 j)),.d (.v (.int .i64 a.length)),.d (.v (.int .i64 i)),.u,t] [.row 0 1 (LL O)])
theorem Lm (n:Nat)(a b O:List Nat)(l i j:Nat)(hj:¬ j<b.length):EX E0 (n+60) XU (OQ a b O l i 0 j .u)=some (.exit 2,OQ a b O l i 0 j (.d (.v (.bool false)))):=by
 have hlb:(LL b).length=b.length:=by simp[LL]
 unfold OQ;simp only[LD];generalize LL b=bs,LL a=as' at*;simp -implicitDefEqProofs[XU,DC,f188,hlb,hj]
theorem Fh (n:Nat)(a b O:List Nat)(l i s j T:Nat)(hc:j<b.length\/0<s)(hm:i+j<l)(hl:l<=1000000000)(la:a.length<=1000000000)(lb:b.length<=1000000000)(ha:bK a)(hb:bK b)(hO:bK O)
  (he:O.length=l) (hs:s<4294967296) (hT:T=s+(bu O (i+j)+bu a i*bu b j)) :
  EX E0 (n+60) XU (OQ a b O l i s j .u)=some (.norm,OQ a b (O.set (i+j) (T % 4294967296)) l i (T / 4294967296) (j+1) .u):=by
 have h1:=fun m=>jo m a la i (by omega) ha
 have h2:=fun m=>jo m b lb j (by omega) hb
 have xa:=bU ha i;have xb:=bU hb j;have xo:=bU hO (i+j);have ho:(LL O)[i+j]?=some (.v (.int .u32 (bu O (i+j):Int))):=by
  have:O[i+j]?=some (O[i+j]'(by omega)):=List.getElem?_eq_getElem (by omega);simp[LL,bu,this]
 have hset:LL (O.set (i+j) (T % 4294967296))=(LL O).set (i+j) (.v (.int .u32 ((T % 4294967296:Nat):Int))):=by simp[LL,List.map_set]
 have hlb:(LL b).length=b.length:=by simp[LL]
 simp only[LD]at h1 h2;have aR:ak .i64 ((j:Int)+1)=(j:Int)+1:=wrap_i64 (by omega);have hk1:((j+1:Nat):Int)=(j:Int)+1:=by omega
 unfold OQ;rw[hset,hk1];generalize bu a i=x,bu b j=y,bu O (i+j)=o at*;have hxy:x*y<=4294967295*4294967295:=Nat.mul_le_mul (by omega) (by omega);have wm:ak .i64 ((i:Int)+(j:Int))=((i+j:Nat):Int):=by rw[wrap_i64 (by omega)];omega
 generalize i+j=m at*;obtain⟨P,hP⟩:∃ P:Nat,P=x*y:=⟨_,rfl⟩
 have w1:ak .u64 ((x:Int)*(y:Int))=(P:Int):=by rw[<-Int.natCast_mul,<-hP];exact wrap_u64 (by omega)
 rw[<-hP]at hT hxy;have w2:ak .u64 (o:Int)=(o:Int):=wrap_u64 (by omega);obtain⟨Q,hQ⟩:∃ Q:Nat,Q=o+P:=⟨_,rfl⟩
 have w3:ak .u64 ((o:Int)+(P:Int))=(Q:Int):=by rw[wrap_u64 (by omega)];omega
 have w4:ak .u64 ((s:Int)+(Q:Int))=(T:Int):=by rw[wrap_u64 (by omega)];omega
 have w5:ak .u32 (T:Int)=((T % 4294967296:Nat):Int):=by rw[cZ];omega
 have w6:Int.fdiv (T:Int) 4294967296=((T / 4294967296:Nat):Int):=by rw[Int.fdiv_eq_ediv_of_nonneg _ (by omega)];omega
 clear hP hQ hT hxy;generalize T % 4294967296=lo,T / 4294967296=hi at*;have hm0:(0:Int)<=(m:Int):=by omega
 have ho2:=idx ho;simp only[LD];generalize LL b=bs,LL a=as',LL O=es at*
 by_cases hj:j<b.length
 ·simp -implicitDefEqProofs[IntKind.bits,XU,DC,f188,hlb,hj,h1,h2,aR,wm,hm,hm0,ho,ho2,w1,w2,w3,w4,w5,w6]
 ·have hs0:0<s:=by omega
  simp -implicitDefEqProofs[IntKind.bits,XU,DC,f188,hlb,hj,hs0,h1,h2,aR,wm,hm,hm0,ho,ho2,w1,w2,w3,w4,w5,w6]
theorem Ig {V V' P o lo hi s xy:Nat}(h1:V'+P*o=V+P*lo)(h2:s+(o+xy)=lo+4294967296*hi):V'+hi*(P*4294967296)=V+s*P+P*xy:=by
 have h3:P*(s+(o+xy))=P*(lo+4294967296*hi):=by rw[h2]
 grind
def tjI (a b:List Nat)(n i:Nat)(t:List Nat × Nat × Nat):Prop :=
 t.1.length=n/\bK t.1/\t.2.1<4294967296/\val t.1+t.2.1*4294967296 ^ (i+t.2.2)=bQ a i*val b+4294967296 ^ i*(bu a i*bQ b t.2.2)
theorem y5 {a b:List Nat}{i j:Nat}(hj:b.length<=j):bQ a i*val b+4294967296 ^ i*(bu a i*bQ b j)=bQ a (i+1)*val b:=by
 rw[eD hj,dI,Nat.add_mul,Nat.mul_assoc]
theorem OT {a b:List Nat}(ha:bK a)(hb:bK b)(i:Nat):bQ a (i+1)*val b<4294967296 ^ (i+1+b.length):=by
 have h1:=mK ha (i+1);have h2:=mE hb;rw[Nat.pow_add];exact Nat.mul_lt_mul_of_lt_of_le h1 (Nat.le_of_lt h2) (Nat.pow_pos (by omega))
theorem Ih {a b O:List Nat}{i j s:Nat}(ha:bK a)(hb:bK b)(hj:b.length<=j)
  (h:val O+s*4294967296 ^ (i+j)=bQ a i*val b+4294967296 ^ i*(bu a i*bQ b j)) (hs:0<s):j=b.length:=by
 rw[y5 hj]at h;have h1:=OT ha hb i;rcases Nat.lt_or_ge b.length j with h2|h2
 ·exfalso;have h3:4294967296 ^ (i+1+b.length)<=4294967296 ^ (i+j):=Nat.pow_le_pow_right (by omega) (by omega);have h4:4294967296 ^ (i+j)<=s*4294967296 ^ (i+j):=Nat.le_mul_of_pos_left _ hs;omega
 ·omega
theorem Fj (a b O:List Nat)(i:Nat)(hi:i<a.length)(la:a.length<=100000000)(lb:b.length<=100000000)(ha:bK a)(hb:bK b)(hO:bK O)(he:O.length=a.length+b.length)(hv:val O=bQ a i*val b) :
  ∃ r,Ex E0 (.loop XU) (OQ a b O (a.length+b.length) i 0 0 .u) r/\∃ O' j,bK O'/\O'.length=a.length+b.length/\val O'=bQ a (i+1)*val b /\
   r=(.exit 2,OQ a b O' (a.length+b.length) i 0 j (.d (.v (.bool false)))):=by
 refine Ex.inv (S:=fun t:List Nat × Nat × Nat=>OQ a b t.1 (a.length+b.length) i t.2.1 t.2.2 .u) (fun t=>b.length+2-t.2.2) (tjI a b (a.length+b.length) i) _ ?_ (O,0,0) ?_
 ·rintro⟨O,s,j⟩ ⟨h1,h2,h3,h4⟩;simp only at h1 h2 h3 h4
  by_cases hc:j<b.length\/0<s
  ·have hjb:j<=b.length:=by
    rcases Nat.lt_or_ge j b.length with h|h
    ·omega
    ·exact Nat.le_of_eq (Ih ha hb h h4 (by omega))
   have hr:=Fh 0 a b O (a.length+b.length) i s j _ hc (by omega) (by omega) (by omega) (by omega) ha hb h2 h1 h3 rfl;have hset:=yw O (i+j) ((s+(bu O (i+j)+bu a i*bu b j)) % 4294967296) (by omega);have xo:=bU h2 (i+j);have xa:=bU ha i;have xb:=bU hb j;have hxy:bu a i*bu b j<=4294967295*4294967295:=Nat.mul_le_mul (by omega) (by omega);have hT:(s+(bu O (i+j)+bu a i*bu b j))=(s+(bu O (i+j)+bu a i*bu b j)) % 4294967296+4294967296*((s+(bu O (i+j)+bu a i*bu b j)) / 4294967296):=by omega
   refine .inl ⟨(O.set (i+j) ((s+(bu O (i+j)+bu a i*bu b j)) % 4294967296),(s+(bu O (i+j)+bu a i*bu b j)) / 4294967296,j+1),Ex.of hr,?_,?_,?_,?_,?_⟩
   ·simp only;omega
   ·simp[h1]
   ·exact Dz h2 (Nat.mod_lt _ (by omega))
   ·simp only;generalize bu a i*bu b j=xy at*;omega
   ·simp only;have:=Ig hset hT;rw[show i+(j+1)=(i+j)+1 by omega,Nat.pow_succ,this,h4,dI];rw[Nat.pow_add];generalize 4294967296 ^ i=p;generalize 4294967296 ^ j=q;grind
  ·have hs:s=0:=by omega
   subst hs;have hj:b.length<=j:=by omega
   rw[y5 hj]at h4;refine .inr ⟨_,Ex.of (Lm 0 a b O (a.length+b.length) i j (by omega)),by simp,O,j,h2,h1,by omega,rfl⟩
 ·exact⟨he,hO,by simp,by simp[hv,bQ,val]⟩
def Hy (a b O:List Nat)(i:Nat)(t:FV):St:=(st0 [.d (LD a),.d (LD b),.u,.ls (.loc 0) 0 1 0 (a.length+b.length),.u,.u,.u,.d (.v (.int .i64 a.length)),.d (.v (.int .i64 i)),t,.u] [.row 0 1 (LL O)])
theorem Fp (a b:List Nat)(la:a.length<=100000000)(lb:b.length<=100000000)(ha:bK a)(hb:bK b) :
  ∃ r,Ex E0 (.loop DC) (Hy a b (row0 [] (a.length+b.length)) 0 .u) r/\∃ O,bK O/\O.length=a.length+b.length/\val O=val a*val b/\r=(.exit 0,Hy a b O a.length (.d (.v (.bool false)))):=by
 refine Ex.inv (S:=fun t:List Nat × Nat=>Hy a b t.1 t.2 .u) (fun t=>a.length-t.2) (fun t=>t.2<=a.length/\t.1.length=a.length+b.length/\bK t.1/\val t.1=bQ a t.2*val b) _ ?_ (row0 [] (a.length+b.length),0) ?_
 ·rintro⟨O,i⟩ ⟨h1,h2,h3,h4⟩;simp only at h1 h2 h3 h4
  by_cases hi:i<a.length
  ·obtain⟨r,hr,O',j,g1,g2,g3,rfl⟩:=Fj a b O i hi la lb ha hb h3 h2 h4;refine .inl ⟨(O',i+1),?_,by simp only;omega,by simp only;omega,g2,g1,g3⟩;have aR:ak .i64 ((i:Int)+1)=(i:Int)+1:=wrap_i64 (by omega);have hk1:((i+1:Nat):Int)=(i:Int)+1:=by omega
   show Ex E0 (.seq DC.l (.seq DC.r.l (.seq (.block 1 (.seq DC.r.r.l.bl.l (.seq DC.r.r.l.bl.r.l (.seq DC.r.r.l.bl.r.r.l (.block 2 (.loop XU)))))) DC.r.r.r))) _ _;refine Ex.seq (st1:=Hy a b O i (.d (.v (.bool true)))) (Ex.of (n:=40) ?_) (Ex.seq (st1:=Hy a b O i (.d (.v (.bool true)))) (Ex.of (n:=40) ?_) (Ex.seq (Ex.d9
    (Ex.seq (st1:={Hy a b O i .u with vars:=[.d (LD a),.d (LD b),.u,.ls (.loc 0) 0 1 0 (a.length+b.length),.d (.v (.int .i64 i)),.u,.u,.d (.v (.int .i64 a.length)),.d (.v (.int .i64 i)),.u,.u]}) (Ex.of (n:=40) ?_)
    (Ex.seq (st1:={Hy a b O i .u with vars:=[.d (LD a),.d (LD b),.u,.ls (.loc 0) 0 1 0 (a.length+b.length),.d (.v (.int .i64 i)),.d (.v (.int .u64 0)),.u,.d (.v (.int .i64 a.length)),.d (.v (.int .i64 i)),.u,.u]}) (Ex.of (n:=40) ?_)
    (Ex.seq (Ex.of (n:=40) ?_) hr.block)))) (Ex.of (n:=40) ?_)))
   ·unfold Hy;simp -implicitDefEqProofs[DC,f188,hi]
   ·unfold Hy;simp -implicitDefEqProofs[DC,f188]
   ·unfold Hy;simp -implicitDefEqProofs[DC,f188]
   ·unfold Hy;simp -implicitDefEqProofs[DC,f188]
   ·unfold Hy OQ;simp -implicitDefEqProofs[DC,f188]
   ·unfold Hy OQ;rw[hk1];simp -implicitDefEqProofs[DC,f188,aR]
  ·have he:i=a.length:=by omega
   subst he;rw[eD (Nat.le_refl _)]at h4;refine .inr ⟨_,Ex.of (n:=60) ?_,?_,O,h3,h2,h4,rfl⟩
   ·unfold Hy;simp -implicitDefEqProofs[DC,f188]
   ·simp
 ·refine⟨by simp,by simp[row0],?_,?_⟩
  ·intro x hx;simp[row0]at hx;omega
  ·have:∀ m,val (List.replicate m 0)=0:=by
    intro m
    induction m with
    | zero=>rfl
    | succ m ih=>rw[List.replicate_succ,val,ih]
   simp[row0,bQ,val,this]
theorem Fq (a b:List Nat)(la:a.length<=100000000)(lb:b.length<=100000000)(ha:bK a)(hb:bK b) :
  Ca E0 OP [.d (LD a),.d (LD b)] (.d (LD (enc (val a*val b))),none):=by
 obtain⟨r,hl,o,ho,hol,hv,rfl⟩:=Fp a b la lb ha hb;obtain⟨n0,hc⟩:=(f_ o (by omega)).get;rw[bS ho,hv]at hc;have hlo:(LL o).length=a.length+b.length:=by simp[LL,hol]
 have hla:(LL a).length=a.length:=by simp[LL]
 have hlb:(LL b).length=b.length:=by simp[LL]
 have htk:(LL o).take (a.length+b.length)=LL o:=List.take_of_length_le (by omega);have hz:=uk (a.length+b.length);generalize enc (val a*val b)=res at*;refine Ca.body (o:=.ret) (st1:=(st0 [.u,.u,.d (LD res),.u,.u,.u,.u,.u,.u,.u,.u] [.fM 0 1 (LL o)])) rfl (k188:E0.fn _=_) rfl ?_ (by intro id h;cases h) ?_
 ·show Ex E0 (.seq yZ.body.l (.seq yZ.body.r.l (.seq (.seq yZ.body.r.r.l.l (.block 0 (.loop DC))) yZ.body.r.r.r))) _ _;refine Ex.seq (st1:=(st0 [.d (LD a),.d (LD b),.u,.u,.u,.u,.u,.u,.u,.u,.u] [])) (Ex.of (n:=40) ?_)
   (Ex.seq (st1:=(st0 [.d (LD a),.d (LD b),.u,.ls (.loc 0) 0 1 0 (a.length+b.length),.u,.u,.u,.u,.u,.u,.u] [.row 0 1 (LL (row0 [] (a.length+b.length)))])) (Ex.of (n:=40) ?_)
   (Ex.seq (Ex.seq (Ex.of (n:=40) ?_) hl.block) (Ex.of (n:=n0+40) ?_)))
  ·simp -implicitDefEqProofs[f188]
  ·have hw:ak .i64 ((a.length:Int)+(b.length:Int))=((a.length+b.length:Nat):Int):=by rw[wrap_i64 (by omega)];omega
   have hmb:a.length+b.length<=200000000:=by omega
   rw[hz];generalize a.length+b.length=m at*;have hm1:(m:Int)*4<=1099511627776:=by omega
   have hm2:(m:Int)<=1099511627776:=by omega
   simp -implicitDefEqProofs[f188,LD,hla,hlb,hw,hm1,hm2,most]
  ·unfold Hy;simp -implicitDefEqProofs[f188,LD,hla]
  ·unfold Hy;simp only[LD]at hc ⊢;clear hl;generalize LL o=es,a.length+b.length=m at*;simp -implicitDefEqProofs[ae.view,f188,hlo,htk,hc]
 ·simp -implicitDefEqProofs[f188,LD]
abbrev WI:Nat:=226
abbrev xh:ai:=f226
abbrev ad5:Nat:=183
abbrev XV:ai:=f183
theorem mM {d:Nat}(h0:0<d)(h:d<4294967296):enc d=[d]:=by
 rw[enc,if_neg (by omega),Nat.mod_eq_of_lt h,Nat.div_eq_of_lt h];simp[enc]
theorem bW:enc 0=[]:=by simp[enc]
theorem Fs (r:Nat)(h:r<4294967296):trim [r]=enc r:=by
 rw[bS (by intro x hx;simp at hx;omega)];simp[val]
theorem OU (a:List Nat)(d:Nat)(la:a.length<=1000000000)(ha:bK a)(hd:d<4294967296)(hd0:0<d) :
  Ca E0 WI [.d (LD a),.d (LD (enc d))] (.d (.t [LD (enc (val a / d)),LD (enc (val a % d))]),none):=by
 obtain⟨n0,hs⟩:=(OO a d la ha hd hd0).any;have hm:val a % d<4294967296:=by have:=Nat.mod_lt (val a) hd0;omega
 obtain⟨n1,hc⟩:=(f_ [val a % d] (by simp)).any;replace hs:=hs (n0+n1) (by omega);replace hc:=hc (n0+n1) (by omega);generalize n0+n1=N at*;rw[Fs _ hm]at hc;rw[mM hd0 hd];generalize enc (val a / d)=q,val a % d=m at*;generalize enc m=r at*;simp only[LD,LL,List.map_cons,List.map_nil]at hs hc ⊢;refine Ca.bO (n:=N+60) ?_;rw[aA rfl (k226:E0.fn _=_) rfl];generalize List.map (fun(x:Nat)=>D.v (Value.int IntKind.u32 (x:Int))) a=as' at*;simp -implicitDefEqProofs[f226,mF,hs,hc]
def gcB:aD:=XV.body.r.l.bl.lp
def Bo (a b:Nat)(t:FV):St:=(st0 [.d (LD (enc a)),.d (LD (enc b)),.u,.u,t] [])
theorem fo {n k:Nat}(h:n<4294967296 ^ k):(enc n).length<=k:=by
 induction k generalizing n with
 | zero => have : n = 0 := by simp at h;omega
           subst this;simp[bW]
 | succ k ih =>
  rw[enc];split
  ·simp
  ·simp only[List.length_cons];have:=ih (n:=n / 4294967296) (by rw[Nat.pow_succ]at h;omega);omega
theorem TZ (a:Nat):Ex E0 gcB (Bo a 0 .u) (.exit 0,Bo a 0 (.d (.v (.bool false)))):=by
 refine Ex.of (n:=40) ?_;unfold Bo;simp only[bW,LD];generalize LL (enc a)=as';simp -implicitDefEqProofs[gcB,f183,LL]
abbrev aa8:Nat:=267
abbrev BX:ai:=f267
theorem Lp {x s:Nat}(hx:x<4294967296)(hs:s<32):Ib .u64 (x:Int) (s:Int)=((x*2 ^ s:Nat):Int):=by
 have hp:2 ^ s<=2147483648:=by
  have:=Nat.pow_le_pow_right (n:=2) (by omega) (show s<=31 by omega);simpa using this
 have hxs:x*2 ^ s<=4294967295*2147483648:=Nat.mul_le_mul (by omega) hp;rw[yo,<-bV];have h:(2:Int) ^ (min (Int.toNat (s:Int)) (IntKind.bits .u64))=((2 ^ s:Nat):Int):=by
  have:min (Int.toNat (s:Int)) (IntKind.bits .u64)=s:=by simp[IntKind.bits];omega
  rw[this];simp
 rw[h,<-Int.natCast_mul];exact wrap_u64 (by omega)
theorem XW {r x s:Nat}(hr:r<2 ^ s)(hx:x<4294967296)(hs:s<32):Fe .u64 (r:Int) ((x*2 ^ s:Nat):Int)=((r+x*2 ^ s:Nat):Int):=by
 have hp:2 ^ s<=2147483648:=by
  have:=Nat.pow_le_pow_right (n:=2) (by omega) (show s<=31 by omega);simpa using this
 have hxs:x*2 ^ s<=4294967295*2147483648:=Nat.mul_le_mul (by omega) hp;rw[vU,<-bV]
 change ak .u64 ((BitVec.ofInt 64 (r:Int) ||| BitVec.ofInt 64 ((x*2 ^ s:Nat):Int)).toNat:Int)=_
 have e:x*2 ^ s=x <<< s:=by rw[Nat.shiftLeft_eq]
 have l1:r<2 ^ 64:=by omega
 have l2:x <<< s<2 ^ 64:=by rw[<-e];omega
 rw[BitVec.ofInt_natCast,BitVec.ofInt_natCast,BitVec.toNat_or,BitVec.toNat_ofNat,BitVec.toNat_ofNat,e,Nat.mod_eq_of_lt l1,Nat.mod_eq_of_lt l2,Nat.or_comm,<-Nat.shiftLeft_add_eq_or_of_lt hr,Nat.add_comm];refine wrap_u64 ?_;rw[<-e];omega
def leB:aD:=BX.body.r.r.r.l.r.bl.lp
def T9 (a o:List Nat)(k z j r:Nat)(t:FV):St:=(st0 [.u,.d (.v (.int .i64 k)),.u,.ls (.loc 0) j 1 0 (z+j),.d (.v (.int .u64 r)),.u,.d (LD a),.d (.v (.int .i64 a.length)),.d (.v (.int .i64 j)),t] [.row j 1 (LL o)])
theorem Ii (a o:List Nat)(k z s j r x:Nat)(hk:k=32*z+s)(hs:s<32)(hz:z<=100000000)(hx:a[j]?=some x)(hx32:x<4294967296)(la:a.length<=100000000)(ho:o.length=z+j)(hr:r<2 ^ s) :
  EX E0 60 leB (T9 a o k z j r .u)=some (.norm,T9 a (o++[(r+x*2 ^ s) % 4294967296]) k z (j+1) ((r+x*2 ^ s) / 4294967296) .u):=by
 have hj:=(aT hx)
 have hx':(LL a)[j]?=some (.v (.int .u32 (x:Int))):=by simp[LL,hx]
 have hx2:=idx hx';have hp:2 ^ s<=2147483648:=by
  have:=Nat.pow_le_pow_right (n:=2) (by omega) (show s<=31 by omega);simpa using this
 have hxs:x*2 ^ s<=4294967295*2147483648:=Nat.mul_le_mul (by omega) hp;have w1:ak .u64 (x:Int)=(x:Int):=wrap_u64 (by omega);have w2:Int.tmod (k:Int) 32=(s:Int):=by rw[Int.tmod_eq_emod_of_nonneg (by omega)];omega
 have w3:=Lp hx32 hs;have w4:=XW hr hx32 hs;have hT:∃ T:Nat,T=r+x*2 ^ s:=⟨_,rfl⟩
 obtain⟨T,hT⟩:=hT;rw[<-hT]at w4 ⊢;have hTb:T<18446744073709551616:=by omega
 have hP:∃ P:Nat,P=x*2 ^ s:=⟨_,rfl⟩
 obtain⟨P,hP⟩:=hP;rw[<-hP]at w3 w4;have w5:ak .u32 (T:Int)=((T % 4294967296:Nat):Int):=by rw[cZ];omega
 have w6:Int.fdiv (T:Int) 4294967296=((T / 4294967296:Nat):Int):=by rw[Int.fdiv_eq_ediv_of_nonneg _ (by omega)];omega
 have aR:ak .i64 ((j:Int)+1)=(j:Int)+1:=wrap_i64 (by omega);have hk1:((j+1:Nat):Int)=(j:Int)+1:=by omega
 have hj0:(0:Int)<=(j:Int):=by omega
 have hs0:¬ ((s:Int)<0):=by omega
 have hol:(LL o).length=z+j:=by simp[LL,ho]
 have htk:(LL o).take (z+j)=LL o:=List.take_of_length_le (by omega);have hm1:(z+j+1)*4<=most:=by simp[most];omega
 have hm2:z+j+1<=most:=by simp[most];omega
 have NY:LL (o++[T % 4294967296])=LL o++[.v (.int .u32 ((T % 4294967296:Nat):Int))]:=by simp[LL]
 clear hT hP hxs hp hTb;generalize T % 4294967296=lo,T / 4294967296=hi at*;unfold T9;rw[NY,hk1,<-Nat.add_assoc];simp only[LD];generalize LL a=xs,LL o=es,z+j=m at*;simp -implicitDefEqProofs[IntKind.bits,leB,f267,hj,hj0,hx',hx2,aR,hs0,w1,w2,w3,w4,w5,w6,hol,htk,hm1,hm2]
theorem left_step {V r Q x T W E:Nat}(h:V+r*Q=E*W)(hT:T=r+x):V+Q*(T % 4294967296)+T / 4294967296*(Q*4294967296)=E*W+Q*x:=by
 have h1:Q*(T % 4294967296)+T / 4294967296*(Q*4294967296)=Q*T:=by
  have:=Nat.mod_add_div T 4294967296;generalize T % 4294967296=a,T / 4294967296=b at*;subst this;grind
 have h2:Q*T=Q*r+Q*x:=by rw[hT,Nat.mul_add]
 have h3:Q*r=r*Q:=Nat.mul_comm _ _;omega
theorem Lr (m:Nat):val (List.replicate m 0)=0:=by
 induction m with
 | zero=>rfl
 | succ m ih=>rw[List.replicate_succ,val,ih]
theorem Ls (a:List Nat)(k z s:Nat)(hk:k=32*z+s)(hs:s<32)(hz:z<=100000000)(la:a.length<=100000000)(ha:bK a) :
  ∃ r,Ex E0 (.loop leB) (T9 a (List.replicate z 0) k z 0 0 .u) r/\∃ o q,bK o/\o.length=z+a.length/\q<2 ^ s /\
   val o+q*4294967296 ^ (z+a.length)=4294967296 ^ z*2 ^ s*val a/\r=(.exit 0,T9 a o k z a.length q (.d (.v (.bool false)))):=by
 refine Ex.inv (S:=fun t:List Nat × Nat × Nat=>T9 a t.1 k z t.2.1 t.2.2 .u) (fun t=>a.length-t.2.1)
  (fun t=>t.2.1<=a.length/\t.1.length=z+t.2.1/\t.2.2<2 ^ s/\bK t.1/\val t.1+t.2.2*4294967296 ^ (z+t.2.1)=4294967296 ^ z*2 ^ s*bQ a t.2.1) _ ?_ (List.replicate z 0,0,0) ?_
 ·rintro⟨o,j,r⟩ ⟨h1,h2,h3,h4,h5⟩;simp only at h1 h2 h3 h4 h5
  by_cases hj:j<a.length
  ·have hx:a[j]?=some (a[j]'hj):=List.getElem?_eq_getElem hj;have hx32:a[j]'hj<4294967296:=ha _ (List.getElem_mem _);have hat:bu a j=a[j]'hj:=by simp[bu,hx]
   generalize a[j]'hj=x at hx hx32 hat;have hr:=Ii a o k z s j r x hk hs hz hx hx32 la h2 h3;refine .inl ⟨(o++[(r+x*2 ^ s) % 4294967296],j+1,(r+x*2 ^ s) / 4294967296),Ex.of hr,by simp only;omega,by simp only;omega,?_,?_,?_,?_⟩
   ·simp only[List.length_append,List.length_cons,List.length_nil];omega
   ·simp only;rw[Nat.div_lt_iff_lt_mul (by omega)];have h6:x*2 ^ s+2 ^ s<=4294967296*2 ^ s:=by rw[<-Nat.succ_mul];exact Nat.mul_le_mul_right _ hx32
    rw[Nat.mul_comm (2 ^ s) 4294967296];omega
   ·exact gm h4 (fun y hy=>by simp at hy;subst hy;exact Nat.mod_lt _ (by omega))
   ·simp only;rw[val_append,h2,dI,hat,<-Nat.add_assoc,Nat.pow_succ];have hv:val [(r+x*2 ^ s) % 4294967296]=(r+x*2 ^ s) % 4294967296:=by simp[val]
    rw[hv,left_step h5 rfl,Nat.pow_add];generalize 4294967296 ^ z=p;generalize 4294967296 ^ j=q;generalize 2 ^ s=t;grind
  ·have he:j=a.length:=by omega
   subst he;rw[eD (Nat.le_refl _)]at h5;refine .inr ⟨_,Ex.of (n:=60) ?_,?_,o,r,h4,h2,h3,h5,rfl⟩
   ·unfold T9;simp -implicitDefEqProofs[leB,f267]
   ·simp
 ·refine⟨by simp,by simp,Nat.pow_pos (by omega),?_,?_⟩
  ·intro x hx;have:=List.eq_of_mem_replicate hx;omega
  ·simp[Lr,bQ,val]
theorem yx (a:List Nat)(k:Nat)(hk:k<=3200000000)(la:a.length<=100000000)(ha:bK a) :
  Ca E0 aa8 [.d (LD a),.d (.v (.int .i64 k))] (.d (LD (enc (val a*2 ^ k))),none):=by
 obtain⟨z,s,hzs,hs⟩:∃ z s,k=32*z+s/\s<32:=⟨k / 32,k % 32,by omega,by omega⟩
 have hz:z<=100000000:=by omega
 obtain⟨r,hl,o,q,ho,hol,hq,hv,rfl⟩:=Ls a k z s hzs hs hz la ha;have hp:2 ^ s<=2147483648:=by
  have:=Nat.pow_le_pow_right (n:=2) (by omega) (show s<=31 by omega);simpa using this
 have af2:q<4294967296:=by omega
 have hres:val (o++[q])=val a*2 ^ k:=by
  have e:2 ^ (32*z+s)=4294967296 ^ z*2 ^ s:=by rw[Nat.pow_add,Nat.pow_mul]
  have hv2:val [q]=q:=by simp[val]
  rw[val_append,hol,hzs,e,hv2,Nat.mul_comm _ q,hv,Nat.mul_comm]
 have hlim:bK (o++[q]):=gm ho (fun y hy=>by simp at hy;omega);obtain⟨n0,hc⟩:=(f_ (o++[q]) (by simp;omega)).get;rw[bS hlim,hres]at hc;have NY:LL (o++[q])=LL o++[.v (.int .u32 (q:Int))]:=by simp[LL]
 have hlo:(LL o).length=z+a.length:=by simp[LL,hol]
 have hla:(LL a).length=a.length:=by simp[LL]
 have htk:(LL o).take (z+a.length)=LL o:=List.take_of_length_le (by omega);have ad6:(LL o++[D.v (.int .u32 (q:Int))]).take (z+a.length+1)=LL o++[.v (.int .u32 (q:Int))]:=List.take_of_length_le (by simp;omega);have hz0:LL (List.replicate z 0)=List.replicate z (.v (.int .u32 0)):=by simp[LL]
 have w5:ak .u32 (q:Int)=(q:Int):=wrap_u32 (by omega);have hm1:(z+a.length+1)*4<=most:=by simp[most];omega
 have hm2:z+a.length+1<=most:=by simp[most];omega
 generalize enc (val a*2 ^ k)=res at*;refine Ca.body (o:=.ret) (st1:=(st0 [.u,.u,.d (LD res),.u,.u,.u,.u,.u,.u,.u] ([.fM (a.length+1) 1 (LL (o++[q]))]))) rfl (k267:E0.fn _=_) rfl ?_ (by intro id h;cases h) ?_
 ·show Ex E0 (.seq BX.body.l (.seq BX.body.r.l (.seq BX.body.r.r.l (.seq (.seq BX.body.r.r.r.l.l (.block 0 (.loop leB))) BX.body.r.r.r.r)))) _ _;refine Ex.seq (st1:=(st0 [.d (LD a),.d (.v (.int .i64 k)),.u,.u,.u,.u,.u,.u,.u,.u] [])) (Ex.of (n:=40) ?_)
   (Ex.seq (st1:=(st0 [.d (LD a),.d (.v (.int .i64 k)),.u,.ls (.loc 0) 0 1 0 z,.u,.u,.u,.u,.u,.u] [.row 0 1 (LL (List.replicate z 0))])) (Ex.of (n:=40) ?_)
   (Ex.seq (st1:=(st0 [.d (LD a),.d (.v (.int .i64 k)),.u,.ls (.loc 0) 0 1 0 z,.d (.v (.int .u64 0)),.u,.u,.u,.u,.u] [.row 0 1 (LL (List.replicate z 0))])) (Ex.of (n:=40) ?_)
   (Ex.seq (Ex.seq (Ex.of (n:=40) ?_) hl.block) (Ex.of (n:=n0+40) ?_))))
  ·simp -implicitDefEqProofs[f267]
  ·have v1:Int.tdiv (k:Int) 32=(z:Int):=by rw[Int.tdiv_eq_ediv_of_nonneg (by omega)];omega
   have v2:ak .i64 (z:Int)=(z:Int):=wrap_i64 (by omega);have v3:ak .i64 ((z:Int)+(a.length:Int))=(z:Int)+(a.length:Int):=wrap_i64 (by omega);have v4:ak .i64 ((z:Int)+(a.length:Int)+1)=(z:Int)+(a.length:Int)+1:=wrap_i64 (by omega);have v5:(z:Int)<=(z:Int)+(a.length:Int)+1:=by omega
   have v6:((z:Int)+(a.length:Int)+1)*4<=1099511627776:=by omega
   have v7:(z:Int)+(a.length:Int)+1<=1099511627776:=by omega
   rw[hz0];clear hl;simp only[LD];generalize LL a=xs,a.length=m at*;simp -implicitDefEqProofs[f267,hla,v1,v2,v3,v4,v5,v6,v7,most]
  ·simp -implicitDefEqProofs[f267]
  ·unfold T9;simp -implicitDefEqProofs[f267,LD,hla]
  ·unfold T9;rw[NY];simp only[LD]at hc ⊢;rw[NY]at hc;clear hl;generalize LL o=es,z+a.length=m at*;simp -implicitDefEqProofs[ae.view,f267,hlo,htk,ad6,hm1,hm2,w5,hc]
 ·simp -implicitDefEqProofs[f267,LD]
abbrev XX:Nat:=268
abbrev y7:ai:=f268
def riD (a:List Nat)(s i:Nat):Nat:=(bu a i+4294967296*bu a (i+1)) / 2 ^ s % 4294967296
theorem Fu {x y V s:Nat}(hs:s<32)(hx:x<4294967296) :
  (x+4294967296*(y+4294967296*V)) / 2 ^ s=(x+4294967296*y) / 2 ^ s % 4294967296+4294967296*((y+4294967296*V) / 2 ^ s):=by
 have hp:0<2 ^ s:=Nat.pow_pos (by omega);have hq:2 ^ s*2 ^ (32-s)=4294967296:=by rw[<-Nat.pow_add,show s+(32-s)=32 by omega]
 generalize 2 ^ s=p,2 ^ (32-s)=q at*;have h1:=Nat.mod_add_div ((x+4294967296*(y+4294967296*V)) / p) 4294967296;have h2:(x+4294967296*(y+4294967296*V)) / p / 4294967296=(y+4294967296*V) / p:=by
  rw[Nat.div_div_eq_div_mul,Nat.mul_comm p,<-Nat.div_div_eq_div_mul]
  congr 1
  omega
 have h3:(x+4294967296*(y+4294967296*V)) / p=(x+4294967296*y) / p+4294967296*(q*V):=by
  have e:x+4294967296*(y+4294967296*V)=(x+4294967296*y)+p*(4294967296*(q*V)):=by
   have:4294967296*(4294967296*V)=p*(4294967296*(q*V)):=by rw[<-hq];grind
   omega
  rw[e,Nat.add_mul_div_left _ _ hp]
 have h4:(x+4294967296*(y+4294967296*V)) / p % 4294967296=(x+4294967296*y) / p % 4294967296:=by rw[h3,Nat.add_mul_mod_self_left]
 rw[h2,h4]at h1;exact h1.symm
def XY:aD:=y7.body.r.r.l.r.bl.lp
def OV (a o:List Nat)(k i j:Nat)(t:FV):St:=(st0 [.d (LD a),.d (.v (.int .i64 k)),.u,dB j,.d (.v (.int .i64 i)),t] (dC j (LL o)))
theorem Lt (a o:List Nat)(k i j:Nat)(hi:¬ i<a.length):EX E0 60 XY (OV a o k i j .u)=some (.exit 0,OV a o k i j (.d (.v (.bool false)))):=by
 have hla:(LL a).length=a.length:=by simp[LL]
 unfold OV;simp only[LD];generalize LL a=xs,dB j=ov,dC j (LL o)=oh at*;simp -implicitDefEqProofs[XY,f268,hla,hi]
theorem Fv (a o:List Nat)(k z s i j:Nat)(hk:k=32*z+s)(hs:s<32)(hz:z<=100000000)(hi:i<a.length)(la:a.length<=100000000)(ha:bK a)(ho:o.length=j)(hj:j<=100000000) :
  EX E0 80 XY (OV a o k i j .u)=some (.norm,OV a (o++[riD a s i]) k (i+1) (j+1) .u):=by
 have hla:(LL a).length=a.length:=by simp[LL]
 have h1:=fun m=>jo m a (by omega) (i+1) (by omega) ha
 have h2:=fun m=>jo m a (by omega) i (by omega) ha
 have xa:=bU ha i;have xb:=bU ha (i+1);have hk1:((i+1:Nat):Int)=(i:Int)+1:=by omega
 have aR:ak .i64 ((i:Int)+1)=(i:Int)+1:=wrap_i64 (by omega);simp only[LD,hk1]at h1 h2;unfold riD;generalize bu a i=x,bu a (i+1)=y at*;have w1:=OL xb;have w2:=yY xb xa;obtain⟨P,hP⟩:∃ P:Nat,(P:Int)=(y:Int)*4294967296:=⟨y*4294967296,by omega⟩
 obtain⟨T,hT⟩:∃ T:Nat,T=x+4294967296*y:=⟨_,rfl⟩
 have hT2:(y:Int)*4294967296+(x:Int)=(T:Int):=by omega
 rw[hT2,<-hP]at w2;rw[<-hP]at w1;rw[<-hT];have w3:Int.fdiv (T:Int) (2 ^ (min s 64))=((T / 2 ^ s:Nat):Int):=by
  rw[show min s 64=s by omega,Int.fdiv_eq_ediv_of_nonneg _ (Int.pow_nonneg (by omega)),Int.natCast_ediv];simp
 have w4:Int.tmod (k:Int) 32=(s:Int):=by rw[Int.tmod_eq_emod_of_nonneg (by omega)];omega
 have hTq:T / 2 ^ s<18446744073709551616:=Nat.lt_of_le_of_lt (Nat.div_le_self _ _) (by omega);generalize T / 2 ^ s=Q at*;have w5:ak .u32 (Q:Int)=((Q % 4294967296:Nat):Int):=by rw[cZ];omega
 have hs0:¬ ((s:Int)<0):=by omega
 have NY:LL (o++[Q % 4294967296])=LL o++[.v (.int .u32 ((Q % 4294967296:Nat):Int))]:=by simp[LL]
 have hol:(LL o).length=j:=by simp[LL,ho]
 have hv1:dB (j+1)=.ls (.loc 0) j 1 0 (j+1):=by simp[dB]
 have Br:∀ l,dC (j+1) l=[.row j 1 l]:=by intro l;simp[dC]
 have hm1:(j+1)*4<=most:=by simp[most];omega
 have hm2:j+1<=most:=by simp[most];omega
 have htk:(LL o).take j=LL o:=List.take_of_length_le (by omega);clear hP hT hT2 hTq;unfold OV;rw[NY,hv1,Br,hk1];generalize Q % 4294967296=lo at*
 by_cases hj0:j=0
 ·have hv:dB j=.d (.n 1):=by simp[dB,hj0]
  have hh:∀ l,dC j l=[]:=by intro l;simp[dC,hj0]
  have hLo:LL o=[]:=List.eq_nil_of_length_eq_zero (by omega);have hvk:FV.ls (.loc 0) 0 1 0 1=FV.ls (.loc 0) j 1 0 (j+1):=by rw[hj0]
  have hhk:∀ l,ae.row 0 1 l=ae.row j 1 l:=by intro l;rw[hj0]
  rw[hv,hh,hLo,<-hvk,<-hhk];simp only[LD];generalize LL a=xs at*;simp -implicitDefEqProofs[IntKind.bits,XY,f268,hla,hi,h1,h2,aR,hs0,w1,w2,w3,w4,w5,most]
 ·have hv:dB j=.ls (.loc 0) (j-1) 1 0 j:=by simp[dB,hj0]
  have hh:∀ l,dC j l=[.row (j-1) 1 l]:=by intro l;simp[dC,hj0]
  have hk2:j-1+1=j:=by omega
  rw[hv,hh];simp only[LD];generalize LL a=xs,LL o=es at*;simp -implicitDefEqProofs[IntKind.bits,XY,f268,hla,hi,h1,h2,aR,hs0,w1,w2,w3,w4,w5,hm1,hm2,hol,htk,hk2]
theorem Ij (a:List Nat)(k z s:Nat)(hk:k=32*z+s)(hs:s<32)(hz:z<=100000000)(la:a.length<=100000000)(ha:bK a) :
  ∃ r,Ex E0 (.loop XY) (OV a [] k z 0 .u) r/\∃ o i,bK o/\o.length<=a.length/\val o=val (a.drop z) / 2 ^ s/\r=(.exit 0,OV a o k i o.length (.d (.v (.bool false)))):=by
 refine Ex.inv (S:=fun t:List Nat × Nat=>OV a t.1 k (z+t.2) t.2 .u) (fun t=>a.length-t.2)
  (fun t=>t.1.length=t.2/\(t.2=0\/z+t.2<=a.length)/\bK t.1/\val t.1+4294967296 ^ t.2*(val (a.drop (z+t.2)) / 2 ^ s)=val (a.drop z) / 2 ^ s) _ ?_ ([],0) ?_
 ·rintro⟨o,j⟩ ⟨h1,h2,h3,h4⟩;simp only at h1 h2 h3 h4
  by_cases hi:z+j<a.length
  ·have hr:=Fv a o k z s (z+j) j hk hs hz hi la ha h1 (by omega);refine .inl ⟨(o++[riD a s (z+j)],j+1),?_,by simp only;omega,?_,?_,?_,?_⟩
   ·simp only;rw[<-Nat.add_assoc];exact Ex.of hr
   ·simp[h1]
   ·simp only;omega
   ·exact gm h3 (fun y hy=>by simp at hy;subst hy;exact Nat.mod_lt _ (by omega))
   ·simp only;rw[val_append,h1,<-h4,<-Nat.add_assoc,ib a (z+j),ib a (z+j+1),Fu hs (bU ha _),Nat.pow_succ];have hv:val [riD a s (z+j)]=riD a s (z+j):=by simp[val]
    rw[hv];unfold riD;rw[Nat.mul_add,Nat.mul_assoc];omega
  ·rw[gp (by omega),Nat.zero_div,Nat.mul_zero,Nat.add_zero]at h4;refine .inr ⟨_,Ex.of (Lt a o k (z+j) j hi),by simp,o,z+j,h3,by omega,h4,by rw[h1]⟩
 ·refine⟨rfl,.inl rfl,?_,by simp[val]⟩;intro x hx;cases hx
theorem Fw:∀ (a:List Nat) (z:Nat),bK a->val (a.drop z)=val a / 4294967296 ^ z
 | a,0,_=>by simp
 | [],z+1,_=>by simp[val]
 | x::r,z+1,h=>by
  have hx:=h x (List.mem_cons_self ..);have e:(x+4294967296*val r) / (4294967296 ^ z*4294967296)=(x+4294967296*val r) / 4294967296 / 4294967296 ^ z:=by
   rw[Nat.mul_comm (4294967296 ^ z) 4294967296,Nat.div_div_eq_div_mul]
  have e2:(x+4294967296*val r) / 4294967296=val r:=by omega
  rw[List.drop_succ_cons,Fw r z (fun y hy=>h y (List.mem_cons_of_mem _ hy)),val,Nat.pow_succ,e,e2]
theorem OW (a:List Nat)(k:Nat)(hk:k<=3200000000)(la:a.length<=100000000)(ha:bK a) :
  Ca E0 XX [.d (LD a),.d (.v (.int .i64 k))] (.d (LD (enc (val a / 2 ^ k))),none):=by
 obtain⟨z,s,hzs,hs⟩:∃ z s,k=32*z+s/\s<32:=⟨k / 32,k % 32,by omega,by omega⟩
 have hz:z<=100000000:=by omega
 obtain⟨r,hl,o,i,ho,hol,hv,rfl⟩:=Ij a k z s hzs hs hz la ha;have hres:val o=val a / 2 ^ k:=by
  rw[hv,Fw a z ha,Nat.div_div_eq_div_mul,hzs,Nat.pow_add,Nat.pow_mul]
 obtain⟨n0,hc⟩:=(f_ o (by omega)).get;rw[bS ho,hres]at hc;have hlo:(LL o).length=o.length:=by simp[LL]
 generalize enc (val a / 2 ^ k)=res at*;refine Ca.body (o:=.ret) (st1:=(st0 [.u,.u,.d (LD res),.u,.u,.u] (if o.length=0 then [] else [.fM (o.length-1) 1 (LL o)]))) rfl (k268:E0.fn _=_) rfl ?_ (by intro id h;cases h) ?_
 ·show Ex E0 (.seq y7.body.l (.seq y7.body.r.l (.seq (.seq y7.body.r.r.l.l (.block 0 (.loop XY))) y7.body.r.r.r))) _ _;refine Ex.seq (st1:=(st0 [.d (LD a),.d (.v (.int .i64 k)),.u,.u,.u,.u] [])) (Ex.of (n:=40) ?_)
   (Ex.seq (st1:=(st0 [.d (LD a),.d (.v (.int .i64 k)),.u,.d (.n 1),.u,.u] [])) (Ex.of (n:=40) ?_)
   (Ex.seq (Ex.seq (Ex.of (n:=40) ?_) hl.block) (Ex.of (n:=n0+40) ?_)))
  ·simp -implicitDefEqProofs[f268]
  ·simp -implicitDefEqProofs[f268]
  ·have v1:Int.tdiv (k:Int) 32=(z:Int):=by rw[Int.tdiv_eq_ediv_of_nonneg (by omega)];omega
   have v2:ak .i64 (z:Int)=(z:Int):=wrap_i64 (by omega);unfold OV;simp -implicitDefEqProofs[f268,v1,v2,dB,dC]
  ·unfold OV;simp only[LD]at hc ⊢
   by_cases hk0:o.length=0
   ·have hLo:LL o=[]:=List.eq_nil_of_length_eq_zero (by omega);have hv1:dB o.length=.d (.n 1):=by simp[dB,hk0]
    have Br:∀ l,dC o.length l=[]:=by intro l;simp[dC,hk0]
    rw[if_pos hk0,hv1,Br];rw[hLo]at hc;clear hl;simp -implicitDefEqProofs[f268,hc]
   ·have htk:(LL o).take o.length=LL o:=List.take_of_length_le (by omega);have hv1:dB o.length=.ls (.loc 0) (o.length-1) 1 0 o.length:=by simp[dB,hk0]
    have Br:∀ l,dC o.length l=[.row (o.length-1) 1 l]:=by intro l;simp[dC,hk0]
    rw[if_neg hk0,hv1,Br];clear hl;generalize LL o=es,o.length=m at*;simp -implicitDefEqProofs[ae.view,f268,hlo,htk,hc]
 ·simp -implicitDefEqProofs[f268,LD]
set_option maxRecDepth 100000
abbrev XZ:Nat:=303
abbrev aa9:Nat:=287
abbrev afo:ai:=f287
abbrev T_:Nat:=266
abbrev adC:ai:=f266
def fu (x:Nat):Nat:=if x=0 then 0 else Nat.log2 x+1
def ni:ByteArray:=⟨#[0,1,2,2,3,3,3,3,4,4,4,4,4,4,4,4,5,5,5,5,5,5,5,5,5,5,5,5,5,5,5,5,6,6,6,6,6,6,6,6,6,6,6,6,6,6,6,6,6,6,6,6,6,6,6,6,6,6,6,6,6,6,6,6,7,7,7,7,7,7,7,7,7,7,7,7,7,7,7,7,7,7,7,7,7,7,7,7,7,7,7,7,7,7,7,7,7,7,7,7,7,7,7,7,7,7,7,7,7,7,7,7,7,7,7,7,7,7,7,7,7,7,7,7,7,7,7,7,8,8,8,8,8,8,8,8,8,8,8,8,8,8,8,8,8,8,8,8,8,8,8,8,8,8,8,8,8,8,8,8,8,8,8,8,8,8,8,8,8,8,8,8,8,8,8,8,8,8,8,8,8,8,8,8,8,8,8,8,8,8,8,8,8,8,8,8,8,8,8,8,8,8,8,8,8,8,8,8,8,8,8,8,8,8,8,8,8,8,8,8,8,8,8,8,8,8,8,8,8,8,8,8,8,8,8,8,8,8,8,8,8,8,8,8,8,8,8,8,8,8,8,8,8,8,8,8]⟩
def Fx (t:ByteArray):ai:={np:=1,nv:=4,ref:=false,res:=[.var 1],body:=(.seq (.region [⟨false,none,.yz (.c (.v (.int .i64 0)))⟩] [(1,0)] []) (.seq (.seq (.region [⟨false,none,.yz (.var 0)⟩,⟨false,none,.bin .geq (.loc 0) (.c (.v (.int .u32 65536)))⟩] [(2,1)] []) (.cond (.var 2) (.seq (.seq (.region [⟨false,none,.yz (.var 0)⟩,⟨false,none,.bin .shr (.loc 0) (.c (.v (.int .u64 16)))⟩,⟨false,none,.yz (.loc 1)⟩] [(0,2)] []) (.kill [1,2])) (.region [⟨false,none,.yz (.c (.v (.int .i64 16)))⟩] [(1,0)] [])) .skip)) (.seq (.seq (.seq (.region [⟨false,none,.yz (.var 0)⟩,⟨false,none,.bin .geq (.loc 0) (.c (.v (.int .u32 256)))⟩] [(3,1)] []) (.kill [2])) (.cond (.var 3) (.seq (.seq (.region [⟨false,none,.yz (.var 0)⟩,⟨false,none,.bin .shr (.loc 0) (.c (.v (.int .u64 8)))⟩,⟨false,none,.yz (.loc 1)⟩] [(0,2)] []) (.kill [3])) (.region [⟨false,none,.yz (.var 1)⟩,⟨false,none,.bin .add (.loc 0) (.c (.v (.int .i64 8)))⟩,⟨false,none,.yz (.loc 1)⟩] [(1,2)] [])) .skip)) (.seq (.seq (.region [⟨false,none,.yz (.var 1)⟩,⟨false,none,.yz (.var 0)⟩,⟨false,none,.conv .u8 (.loc 1)⟩,⟨false,none,.rZ (.c (.v (.string t))) (.loc 2)⟩,⟨false,none,.conv .i64 (.loc 3)⟩,⟨false,none,.bin .add (.loc 0) (.loc 4)⟩,⟨false,none,.yz (.loc 5)⟩] [(1,6)] []) (.kill [0,3])) .ret))))}
theorem Ua:f303=Fx ni:=rfl
theorem Ub:((List.range 256).all fun i=>match ni[i]? with|some b=>Nat.beq b.toNat (fu i)|none=>false)=true:=by kernel_rfl
theorem Uc {i:Nat}(h:i<256):∃ b:UInt8,ni[i]?=some b/\b.toNat=fu i:=by
 have:=X0 Ub h;cases hb:ni[i]? with
 | none=>rw[hb]at this;cases this
 | some b=>rw[hb]at this;exact⟨b,rfl,Nat.eq_of_beq_eq_true this⟩
theorem r9 {x s:Nat}(h:2 ^ s<=x):fu x=fu (x / 2 ^ s)+s:=by
 have hp:0<2 ^ s:=Nat.pow_pos (by omega);have h1:0<x / 2 ^ s:=Nat.div_pos h hp;unfold fu;rw[if_neg (by omega),if_neg (by omega)];have h2:Nat.log2 x=Nat.log2 (x / 2 ^ s)+s:=by
  rw[Nat.log2_eq_iff (by omega)];have a1:=Nat.log2_self_le (n:=x / 2 ^ s) (by omega);have a2:=Nat.lt_log2_self (n:=x / 2 ^ s);constructor
  ·rw[Nat.pow_add];exact Nat.le_trans (Nat.mul_le_mul_right _ a1) (Nat.div_mul_le_self x (2 ^ s))
  ·rw[show Nat.log2 (x / 2 ^ s)+s+1=(Nat.log2 (x / 2 ^ s)+1)+s by omega,Nat.pow_add];exact(Nat.div_lt_iff_lt_mul hp).1 a2
 omega
theorem BR {E:Env}{st:St}{rec:Nat->List FV->List ae->bA}{env:List FV}{draw:Bool}{x i:Arg}:RK E rec draw st env (.rZ x i)=runK E rec draw st env (.rZ x i):=bT ..
theorem wrap_u8 {z:Int}(h:0<=z/\z<256):ak .u8 z=z:=by
 rw[bV];simp only[IntKind.wrap,IntKind.bits,IntKind.signed];simp;omega
theorem yA {x:Nat}(h:x<4294967296):fu x<=32:=by
 unfold fu;split
 ·omega
 ·have:=(Nat.log2_lt (n:=x) (k:=32) (by omega)).2 (by omega);omega
theorem Lu (n x:Nat)(hx:x<4294967296):CL E0 (n+40) XZ [.d (.v (.int .u32 x))] []=some (.d (.v (.int .i64 (fu x))),none):=by
 rw[aA rfl ((k303:E0.fn _=_).trans (congrArg some Ua)) rfl];have fin:∀ (y m:Nat),y<256->m<=24->fu x=fu y+m->∃ b:UInt8,ni[y]?=some b/\ak .u8 (y:Int)=(y:Int)/\ak .i64 ((b.toNat:Nat):Int)=((b.toNat:Nat):Int) /\
   ak .i64 ((m:Int)+((b.toNat:Nat):Int))=(fu x:Int):=by
  intro y m hy hm he;obtain⟨b,h1,h2⟩:=Uc hy;have hb:=b.toNat_lt;exact⟨b,h1,wrap_u8 (by omega),wrap_i64 (by omega),by rw[wrap_i64 (by omega)];omega⟩
 by_cases hA:65536<=x
 ·have hA':(65536:Int)<=(x:Int):=by omega
  have w1:Int.fdiv (x:Int) 65536=((x / 65536:Nat):Int):=by rw[Int.fdiv_eq_ediv_of_nonneg _ (by omega)];omega
  have e1:fu x=fu (x / 65536)+16:=r9 (s:=16) (by omega);have hx1:x / 65536<65536:=by omega
  generalize x / 65536=x1 at*
  by_cases hB:256<=x1
  ·have hB':(256:Int)<=(x1:Int):=by omega
   have w2:Int.fdiv (x1:Int) 256=((x1 / 256:Nat):Int):=by rw[Int.fdiv_eq_ediv_of_nonneg _ (by omega)];omega
   have e2:fu x1=fu (x1 / 256)+8:=r9 (s:=8) (by omega);have hx2:x1 / 256<256:=by omega
   generalize x1 / 256=x2 at*;obtain⟨b,f1,f2,f3,f4⟩:=fin x2 24 hx2 (by omega) (by omega);have w3:ak .i64 24=24:=wrap_i64 (by omega);have hp:(0:Int)<=(x2:Int):=by omega
   generalize ni=tb at*;simp -implicitDefEqProofs[IntKind.bits,Fx,hA',hB',w1,w2,w3,f1,f2,f3,hp];simpa using f4
  ·have hB':¬ (256:Int)<=(x1:Int):=by omega
   obtain⟨b,f1,f2,f3,f4⟩:=fin x1 16 (by omega) (by omega) (by omega);have hp:(0:Int)<=(x1:Int):=by omega
   generalize ni=tb at*;simp -implicitDefEqProofs[IntKind.bits,Fx,hA',hB',w1,f1,f2,f3,hp];simpa using f4
 ·have hA':¬ (65536:Int)<=(x:Int):=by omega
  by_cases hB:256<=x
  ·have hB':(256:Int)<=(x:Int):=by omega
   have w2:Int.fdiv (x:Int) 256=((x / 256:Nat):Int):=by rw[Int.fdiv_eq_ediv_of_nonneg _ (by omega)];omega
   have e2:fu x=fu (x / 256)+8:=r9 (s:=8) (by omega);have hx2:x / 256<256:=by omega
   generalize x / 256=x2 at*;obtain⟨b,f1,f2,f3,f4⟩:=fin x2 8 hx2 (by omega) (by omega);have w3:ak .i64 8=8:=wrap_i64 (by omega);have hp:(0:Int)<=(x2:Int):=by omega
   generalize ni=tb at*;simp -implicitDefEqProofs[IntKind.bits,Fx,hA',hB',w2,w3,f1,f2,f3,hp];simpa using f4
  ·have hB':¬ (256:Int)<=(x:Int):=by omega
   obtain⟨b,f1,f2,f3,f4⟩:=fin x 0 (by omega) (by omega) (by omega);have hp:(0:Int)<=(x:Int):=by omega
   generalize ni=tb at*;simp -implicitDefEqProofs[Fx,hA',hB',f1,f2,f3,hp];simpa[f3] using f4
theorem OX (n x:Nat)(hx:x<4294967296):CL E0 (n+80) aa9 [.d (.v (.int .u32 x))] []=some (.d (.v (.int .i64 ((32-fu x:Nat):Int))),none):=by
 have t:=fun m=>Lu m x hx
 have hb:=yA hx;have w:ak .i64 (32-(fu x:Int))=((32-fu x:Nat):Int):=by rw[wrap_i64 (by omega)];omega
 rw[aA rfl (k287:E0.fn _=_) rfl];generalize fu x=bl at*;generalize 32-bl=r at*;simp -implicitDefEqProofs[f287,t,w]
theorem Ik (n:Nat)(b:List Nat)(x:Nat)(hx:x<4294967296)(hl:b.length<=100000000) :
  CL E0 (n+120) T_ [.d (LD (b++[x]))] []=some (.d (.v (.int .i64 ((32*b.length+fu x:Nat):Int))),none):=by
 have t:=fun m=>OX m x hx
 have hb:=yA hx;have hlen:(LL (b++[x])).length=b.length+1:=by simp[LL]
 have hget:(LL (b++[x]))[b.length]?=some (.v (.int .u32 (x:Int))):=by simp[LL]
 have hb0:(((b.length:Int)+1)==0)=false:=by simp;omega
 have w1:ak .i64 (b.length:Int)=(b.length:Int):=wrap_i64 (by omega);have w2:ak .i64 (32*((b.length:Int)+1))=32*((b.length:Int)+1):=wrap_i64 (by omega);have w3:ak .i64 (32*((b.length:Int)+1)-((32-fu x:Nat):Int))=((32*b.length+fu x:Nat):Int):=by rw[wrap_i64 (by omega)];omega
 rw[aA rfl (k266:E0.fn _=_) rfl];generalize 32*b.length+fu x=res,32-fu x=r at*;simp only[LD];generalize LL (b++[x])=es at*;have yT:=idx hget;generalize b.length=m at*;simp -implicitDefEqProofs[f266,hlen,yT,hb0,w1,w2,w3,t]
end Fi.S
