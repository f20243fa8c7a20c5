import Derived.Test.YtbbogkfadofneaaGreatDoorSEnv
set_option linter.unusedVariables false
set_option linter.unusedSimpArgs false
noncomputable section
namespace Fi.S
open Go Fi
set_option maxHeartbeats 8000000
attribute [simp] st0 vI vB dI dB rL aD u3K vR lI qO sO zZ NB qP KQ D5 F5 O3 XH abd XI XJ abe XK R5 O4 R6 O5 abf XL abg XM abh abj R7 aeA abk abl XN R8 R9 R_ Sa Sb Sc Sd abm abn XO XP abo Sg aeB abp abq XQ Si Sj Sk Sl O6 abr Sn XR XT abt XU dx XV Eu O7 lJ runK AV nS FV.target di eZ fK eD D.cells FV.cells FV.one D.one uj St.push St.heap St.bu AX splice qV iq aeC aeD aeE aeF aeG ahB aeH aeI aeJ aeK aeL aeM aeN aeO aeP aeQ unV jk mI kJ finish lL F6 fZ leaves xU leave1 jU Sq AY fI jY oneOf aJ FV.rows FV.nD D.norm D.dz scalar D.isV FV.shift FV.f_ ah.shift kR uw elems aF.l aF.r aF.bl aF.lp
abbrev nAt:Nat:=225
abbrev fAt:bK:=f225
abbrev abu:Nat:=231
abbrev KR:bK:=f231
abbrev XW:Nat:=180
abbrev ahg:bK:=f180
theorem jZ (n:Nat)(l:List Nat)(hl:l.length<=1000000000)(i:Nat)(hi:i<=1000000000)(hb:∀ x ∈ l,x<4294967296) :
  CL E0 (n+30) nAt [.d (LD l),dI i] []=some (.d (.v (.int .u64 (bE l i))),none):=by
 rw[av rfl (aM 225 f225:E0.fn _=_) rfl]
 by_cases h:i<l.length
 ·have h1:((i:Int)<(l.length:Int)):=ae;have hx:l[i]?=some l[i]:=Qa1 h;have hw:ai .u64 (l[i]:Int)=(l[i]:Int):=wrap_u64 (by have:=hb l[i] (Qi0 h);omega);have ha:bE l i=l[i]:=by simp[bE,hx]
  simp[f225,LD,LL,h1,hx,hw,ha]
 ·have h1:¬ ((i:Int)<(l.length:Int)):=ae;have ha:bE l i=0:=by simp[bE,Qn2 (Nat.le_of_not_lt h)]
  simp[f225,LD,LL,h1,ha]
def Xq (l:List Nat):St:=(st0 [.d (LD l),.u,.u] [])
def clR (l:List Nat):Out × St:=(.exit 0,(st0 [.d (LD (trim l)),.u,dB false] []))
def clB:aF:=match KR.body with
 | .seq _ (.seq (.block _ (.loop b)) _)=>b
 | _=>.skip
theorem F7 (n:Nat):EX E0 (n+40) clB (Xq [])=some (clR []):=by
 simp[clB,Xq,clR,f231,LD,LL,trim]
theorem H6 (n:Nat)(b:List Nat)(x:Nat)(hl:b.length<=1000000000) :
  EX E0 (n+40) clB (Xq (b++[x]))=if x=0 then some (.norm,Xq b) else some (clR (b++[x])):=by
 have hlen:(LL (b++[x])).length=b.length+1:=by simp[LL]
 have hget:(LL (b++[x]))[b.length]?=some (.v (.int .u32 (x:Int))):=by simp[LL]
 have htake:(LL (b++[x])).take b.length=LL b:=by simp[LL]
 have hpos:(0:Int)<(b.length:Int)+1:=ae;have hw:ai .i64 (b.length:Int)=(b.length:Int):=wrap_i64 ae
 by_cases h:x=0
 ·subst h;unfold Xq LD;generalize LL (b++[0])=es at hlen hget htake;have AZ:=idx hget;have hh:((b.length:Int)<=(b.length:Int)+1):=ae;simp[clB,f231,hlen,hget,AZ,htake,hpos,hw,hh,j4,F8]
 ·have hx:((x:Int)==0)=false:=by simpa using h
  rw[if_neg h];unfold clR;rw[sP b x h];unfold Xq LD;generalize LL (b++[x])=es at hlen hget htake;have AZ:=idx hget;simp[clB,f231,hlen,hget,AZ,hpos,hw,hx]
theorem KS (l:List Nat)(hl:l.length<=1000000000):Ex E0 (.loop clB) (Xq l) (clR l):=by
 have:=Ex.while (E:=E0) (b:=clB) (fun a:{l:List Nat // l.length<=1000000000}=>Xq a.1) (fun a=>a.1.length) (fun a=>clR a.1) ?_ ⟨l,hl⟩
 ·exact this
 ·rintro⟨l,hl⟩;rcases Q91 l with rfl|⟨b,x,rfl⟩
  ·exact .inr ⟨Ex.of (F7 0),by intro h;cases h⟩
  ·have hb:b.length<=1000000000:=by simp at hl;omega
   have hr:=H6 0 b x hb;rw[<-Q22]at hr
   by_cases h:x=0
   ·subst h;rw[if_pos rfl]at hr;refine .inl ⟨⟨b,hb⟩,Ex.of hr,aA,?_⟩;simp only[clR,Q22,sQ]
   ·rw[if_neg h]at hr;exact .inr ⟨Ex.of hr,by intro h;cases h⟩
def clA:aF:=match KR.body with
 | .seq a _=>a
 | _=>.skip
def clC:aF:=match KR.body with
 | .seq _ (.seq _ c)=>c
 | _=>.skip
theorem iE (l:List Nat)(hl:l.length<=1000000000):Ca E0 abu [.d (LD l)] (.d (LD (trim l)),none):=by
 refine Ca.body (o:=.ret) (st1:=(st0 [.u,.d (LD (trim l)),.u] [])) rfl (k231:E0.fn _=_) rfl ?_ (by intro id h;cases h) ?_
 ·show Ex E0 (.seq clA (.seq (.block 0 (.loop clB)) clC)) _ _;refine Ex.seq (st1:=Xq l) (Ex.of (n:=40) ?_) (Ex.seq ((KS l hl).block) (Ex.of (n:=40) ?_))
  ·simp[clA,Xq,f231]
  ·simp[clC,f231]
 ·simp[f231,LD]
abbrev abw:Nat:=181
abbrev XX:bK:=f181
def F9 (a b:List Nat):Nat->Int
 | 0=>0
 | k+1=>if bE a k=bE b k then F9 a b k else if bE a k<bE b k then -1 else 1
def cmS (a b:List Nat)(i:Int):St:=(st0 (.d (LD a)::.d (LD b)::.u::dI i::vR) [])
def Sr (a b:List Nat):Nat->Out × St
 | 0=>(.exit 0,(st0 [.d (LD a),.d (LD b),.u,.d (.v (.int .i64 (-1))),.u,.u,.d (.v (.bool false)),.u] []))
 | k+1=>if bE a k=bE b k then Sr a b k else(.ret,(st0 [.u,.u,.d (.v (.int .i64 (if bE a k<bE b k then -1 else 1))),.u,.u,.u,.u,.u] []))
def XY:aF:=match XX.body with
 | .seq _ (.seq (.seq _ (.block _ (.loop b))) _)=>b
 | _=>.skip
def cmA:aF:=match XX.body with
 | .seq a _=>a
 | _=>.skip
def XZ:aF:=match XX.body with
 | .seq _ (.seq (.seq a (.block _ (.loop _))) _)=>a
 | _=>.skip
def cmC:aF:=match XX.body with
 | .seq _ (.seq (.seq _ (.block _ (.loop _))) c)=>c
 | _=>.skip
theorem dm {l:List Nat}(h:bY l)(i:Nat):bE l i<4294967296:=by
 unfold bE;cases hx:l[i]? with
 | none=>simp
 | some x=>exact h x (Qa2 hx)
theorem KT (n:Nat)(a b:List Nat):EX E0 (n+60) XY (cmS a b (-1))=some (Sr a b 0):=by
 simp[XY,cmS,Sr,f181]
theorem O8 (n:Nat)(a b:List Nat)(k:Nat)(hk:k<=1000000000)(la:a.length<=1000000000)(lb:b.length<=1000000000)(ha:bY a)(hb:bY b) :
  EX E0 (n+60) XY (cmS a b k)=if bE a k=bE b k then some (.norm,cmS a b ((k:Int)-1)) else some (Sr a b (k+1)):=by
 have h1:=fun m=>jZ m a la k hk ha
 have h2:=fun m=>jZ m b lb k hk hb
 have xa:=dm ha k;have xb:=dm hb k;have hdec:ai .i64 ((k:Int)-1)=(k:Int)-1:=wrap_i64 ae;have hk0:(0:Int)<=(k:Int):=ae;unfold Sr cmS;simp only[LD]at h1 h2 ⊢;generalize bE a k=x,bE b k=y at*
 by_cases hxy:x=y
 ·subst hxy;simp[XY,f181,h1,h2,hdec,hk0]
 ·have hne:((x:Int) != (y:Int))=true:=by simp;omega
  rw[if_neg hxy,if_neg hxy]
  by_cases hlt:x<y
  ·have hs:ai .u64 ((x:Int)-(y:Int))=18446744073709551616+(x:Int)-(y:Int):=by rw[gm];omega
   have hd:Int.fdiv (18446744073709551616+(x:Int)-(y:Int)) 9223372036854775808=1:=by rw[Qm0 _ ae];omega
   have w1:ai .i64 1=1:=wrap_i64 ae;have w2:ai .i64 2=2:=wrap_i64 ae;have w3:ai .i64 (-1)=-1:=wrap_i64 ae;simp[IntKind.bits,XY,f181,h1,h2,hk0,hne,hs,hd,hlt,w1,w2,w3]
  ·have hs:ai .u64 ((x:Int)-(y:Int))=(x:Int)-(y:Int):=wrap_u64 ae;have hd:Int.fdiv ((x:Int)-(y:Int)) 9223372036854775808=0:=by rw[Qm0 _ ae];omega
   have w1:ai .i64 1=1:=wrap_i64 ae;have w0:ai .i64 0=0:=wrap_i64 ae;simp[IntKind.bits,XY,f181,h1,h2,hk0,hne,hs,hd,hlt,w1,w0]
theorem xV (a b:List Nat):∀ k,(Sr a b k=(.exit 0,(st0 [.d (LD a),.d (LD b),.u,dI (-1),.u,.u,dB false,.u] []))/\F9 a b k=0) \/
  Sr a b k=(.ret,(st0 (.u::.u::dI (F9 a b k)::lI) []))
 | 0=>.inl ⟨rfl,rfl⟩
 | k+1=>by
  unfold Sr F9
  by_cases h:bE a k=bE b k
  ·rw[if_pos h,if_pos h];exact xV a b k
  ·rw[if_neg h,if_neg h];exact .inr rfl
theorem abx (a b:List Nat)(k:Nat):(Sr a b k).1≠.norm:=by
 rcases xV a b k with ⟨h,_⟩|h<;>rw[h]<;>intro h<;>cases h
theorem H7 (a b:List Nat)(la:a.length<=1000000000)(lb:b.length<=1000000000)(ha:bY a)(hb:bY b):∀ (k:Nat),k<=1000000001->Ex E0 (.loop XY) (cmS a b ((k:Int)-1)) (Sr a b k)
 | 0,_=>Ex.out (Ex.of (n:=60) (KT 0 a b)) (by intro h;cases h)
 | k+1,hk=>by
  have hr:=O8 0 a b k ae la lb ha hb;rw[show(((k+1:Nat):Int)-1)=(k:Int) by omega]
  by_cases h:bE a k=bE b k
  ·rw[if_pos h]at hr;have:=H7 a b la lb ha hb k ae;unfold Sr;rw[if_pos h];exact Ex.next (Ex.of hr) this
  ·rw[if_neg h]at hr;exact Ex.leave (Ex.of hr) (abx a b (k+1))
theorem X0 (a b:List Nat)(la:a.length<=1000000000)(lb:b.length<=1000000000)(ha:bY a)(hb:bY b) :
  Ca E0 abw [.d (LD a),.d (LD b)] (dI (F9 a b (max a.length b.length)),none):=by
 have hl:=H7 a b la lb ha hb (max a.length b.length) ae;have hA:Ex E0 cmA (st0 (.d (LD a)::.d (LD b)::qO) []) (.norm,(st0 (.d (LD a)::.d (LD b)::qO) [])) :=
  Ex.of (n:=40) (by simp[cmA,f181])
 have hmax:(if a.length<b.length then(b.length:Int) else(a.length:Int))=((max a.length b.length:Nat):Int):=by split<;>omega
 have hw:ai .i64 (((max a.length b.length:Nat):Int)-1)=((max a.length b.length:Nat):Int)-1:=wrap_i64 ae;have uN:(LL a).length=a.length:=by simp[LL]
 have DX:(LL b).length=b.length:=by simp[LL]
 have hA2:Ex E0 XZ (st0 (.d (LD a)::.d (LD b)::qO) []) (.norm,cmS a b (((max a.length b.length:Nat):Int)-1)):=by
  refine Ex.of (n:=40) ?_;unfold cmS LD;generalize max a.length b.length=mm at*;simp[XZ,f181,uN,DX,hmax,hw]
 rcases xV a b (max a.length b.length) with ⟨h,h0⟩|h
 ·rw[h]at hl;rw[h0];refine Ca.body (o:=.ret) (st1:=(st0 (.u::.u::dI 0::lI) [])) rfl (k181:E0.fn _=_) rfl ?_ (by intro id h;cases h) ?_
  ·show Ex E0 (.seq cmA (.seq (.seq XZ (.block 0 (.loop XY))) cmC)) _ _;refine hA.seq ((hA2.seq hl.block).seq (Ex.of (n:=40) ?_));simp[cmC,f181]
  ·simp[f181]
 ·rw[h]at hl;refine Ca.body (o:=.ret) (st1:=(st0 (.u::.u::dI (F9 a b (max a.length b.length))::lI) [])) rfl (k181:E0.fn _=_) rfl ?_ (by intro id h;cases h) ?_
  ·show Ex E0 (.seq cmA (.seq (.seq XZ (.block 0 (.loop XY))) cmC)) _ _;refine hA.seq (Ex.dX (hA2.seq hl.dA))
  ·simp[f181]
def dR (x y:Nat):Int:=if x<y then -1 else if x=y then 0 else 1
theorem H8 {a b:List Nat}(ha:bY a)(hb:bY b):∀ k,F9 a b k=dR (b_ a k) (b_ b k)
 | 0=>by simp[F9,dR,b_,val]
 | k+1=>by
  rw[F9,H8 ha hb k,eF,eF];have h1:=om ha k;have h2:=om hb k;unfold dR
  by_cases h:bE a k=bE b k
  ·rw[if_pos h,h];generalize 4294967296 ^ k*bE b k=p
   by_cases h3:b_ a k<b_ b k
   ·rw[if_pos h3,if_pos ae]
   ·by_cases h4:b_ a k=b_ b k
    ·rw[if_neg h3,if_pos h4,if_neg ae,if_pos ae]
    ·rw[if_neg h3,if_neg h4,if_neg ae,if_neg ae]
  ·rw[if_neg h]
   by_cases h3:bE a k<bE b k
   ·have:=jF (vb:=b_ b k) h1 h3;rw[if_pos h3];generalize 4294967296 ^ k*bE a k=p,4294967296 ^ k*bE b k=q at*;rw[if_pos this]
   ·have:=jF (vb:=b_ a k) h2 (show bE b k<bE a k by omega);rw[if_neg h3];generalize 4294967296 ^ k*bE a k=p,4294967296 ^ k*bE b k=q at*;rw[if_neg ae,if_neg ae]
theorem xW (a b:List Nat)(la:a.length<=1000000000)(lb:b.length<=1000000000)(ha:bY a)(hb:bY b) :
  Ca E0 abw [.d (LD a),.d (LD b)] (dI (dR (val a) (val b)),none):=by
 have h:=X0 a b la lb ha hb;rw[H8 ha hb,fM ae,fM ae]at h;exact h
abbrev aaD:Nat:=228
abbrev Ev:bK:=f228
def X3:aF:=match Ev.body with
 | .seq _ (.seq _ (.seq _ (.seq (.seq _ (.block _ (.loop b))) _)))=>b
 | _=>.skip
def aeR:aF:=match Ev.body with
 | .seq a _=>a
 | _=>.skip
def aeS:aF:=match Ev.body with
 | .seq _ (.seq a _)=>a
 | _=>.skip
def aeT:aF:=match Ev.body with
 | .seq _ (.seq _ (.seq a _))=>a
 | _=>.skip
def aeU:aF:=match Ev.body with
 | .seq _ (.seq _ (.seq _ (.seq (.seq a (.block _ (.loop _))) _)))=>a
 | _=>.skip
def plC:aF:=match Ev.body with
 | .seq _ (.seq _ (.seq _ (.seq (.seq _ (.block _ (.loop _))) c)))=>c
 | _=>.skip
def dY (k:Nat):FV:=if k=0 then .d (.n 1) else .ls (.loc 0) (k-1) 1 0 k
def dZ (k:Nat)(o:List D):List ah:=if k=0 then [] else [.row (k-1) 1 o]
def Xr (a b o:List Nat)(k s:Nat)(t:FV):St:=(st0 [.d (LD a),.d (LD b),.u,dY k,.d (.v (.int .u64 s)),dI k,t] (dZ k (LL o)))
theorem KU (n:Nat)(a b o:List Nat)(k s:Nat)(hk:k<=1000000000)(la:a.length<=1000000000)(lb:b.length<=1000000000)(ha:bY a)(hb:bY b)(ho:o.length=k)(hs:s<4294967296) :
  EX E0 (n+60) X3 (Xr a b o k s .u)=if k<max a.length b.length\/0<s then some (.norm,Xr a b (o++[(s+(bE a k+bE b k)) % 4294967296]) (k+1) ((s+(bE a k+bE b k)) / 4294967296) .u)
   else some (.exit 0,Xr a b o k s (dB false)):=by
 have h1:=fun m=>jZ m a la k hk ha
 have h2:=fun m=>jZ m b lb k hk hb
 have xa:=dm ha k;have xb:=dm hb k;have uN:(LL a).length=a.length:=by simp[LL]
 have DX:(LL b).length=b.length:=by simp[LL]
 have hmax:(if a.length<b.length then(b.length:Int) else(a.length:Int))=((max a.length b.length:Nat):Int):=by split<;>omega
 simp only[LD]at h1 h2;have aR:ai .i64 ((k:Int)+1)=(k:Int)+1:=wrap_i64 ae;generalize bE a k=x,bE b k=y at*;have w1:ai .u64 ((x:Int)+(y:Int))=(x:Int)+(y:Int):=wrap_u64 ae;have w2:ai .u64 ((s:Int)+((x:Int)+(y:Int)))=(s:Int)+((x:Int)+(y:Int)):=wrap_u64 ae;have w3:ai .u32 ((s:Int)+((x:Int)+(y:Int)))=((s:Int)+((x:Int)+(y:Int))) % 4294967296:=dJ _;have w4:Int.fdiv ((s:Int)+((x:Int)+(y:Int))) 4294967296=((s:Int)+((x:Int)+(y:Int))) / 4294967296:=Qm0 _ ae;have RN:LL (o++[(s+(x+y)) % 4294967296])=LL o++[.v (.int .u32 (((s:Int)+((x:Int)+(y:Int))) % 4294967296))]:=by simp[LL]
 have hol:(LL o).length=k:=by simp[LL,ho]
 have hv1:dY (k+1)=.ls (.loc 0) k 1 0 (k+1):=by simp[dY]
 have D6:∀ l,dZ (k+1) l=[.row k 1 l]:=by intro l;simp[dZ]
 have hm1:(k+1)*4<=most:=by simp[most];omega
 have hm2:k+1<=most:=by simp[most];omega
 have htk:(LL o).take k=LL o:=Qe1 ae;have hk1:((k+1:Nat):Int)=(k:Int)+1:=ae;have hs1:(((s+(x+y)) / 4294967296:Nat):Int)=((s:Int)+((x:Int)+(y:Int))) / 4294967296:=ae;unfold Xr;rw[RN,hv1,D6,hk1,hs1]
 by_cases hk0:k=0
 ·have hv:dY k=.d (.n 1):=by simp[dY,hk0]
  have hh:∀ l,dZ k l=[]:=by intro l;simp[dZ,hk0]
  have ho0:o=[]:=Qo0 ae;have hLo:LL o=[]:=by rw[ho0];rfl
  have hm3:1*4<=most:=by simp[most]
  have hm4:1<=most:=by simp[most]
  have hvk:FV.ls (.loc 0) 0 1 0 1=FV.ls (.loc 0) k 1 0 (k+1):=by rw[hk0]
  have hhk:∀ l,ah.row 0 1 l=ah.row k 1 l:=by intro l;rw[hk0]
  rw[hv,hh,hLo,<-hvk,<-hhk];generalize max a.length b.length=mm at*
  by_cases hc:k<mm
  ·rw[if_pos (.inl hc)];simp[IntKind.bits,X3,f228,LD,uN,DX,hmax,hc,h1,h2,aR,w1,w2,w3,w4,hm4,most]
  ·by_cases hs0:0<s
   ·rw[if_pos (.inr hs0)];simp[IntKind.bits,X3,f228,LD,uN,DX,hmax,hc,hs0,h1,h2,aR,w1,w2,w3,w4,hm4,most]
   ·rw[if_neg ae];simp[IntKind.bits,X3,f228,LD,uN,DX,hmax,hc,hs0]
 ·have hv:dY k=.ls (.loc 0) (k-1) 1 0 k:=by simp[dY,hk0]
  have hh:∀ l,dZ k l=[.row (k-1) 1 l]:=by intro l;simp[dZ,hk0]
  have hk2:k-1+1=k:=ae;rw[hv,hh];generalize max a.length b.length=mm at*
  by_cases hc:k<mm
  ·rw[if_pos (.inl hc)];simp[IntKind.bits,X3,f228,LD,uN,DX,hmax,hc,h1,h2,aR,w1,w2,w3,w4,hm1,hm2,hol,htk,hk2]
  ·by_cases hs0:0<s
   ·rw[if_pos (.inr hs0)];simp[IntKind.bits,X3,f228,LD,uN,DX,hmax,hc,hs0,h1,h2,aR,w1,w2,w3,w4,hm1,hm2,hol,htk,hk2]
   ·rw[if_neg ae];simp[IntKind.bits,X3,f228,LD,uN,DX,hmax,hc,hs0]
def plI (a b:List Nat)(t:List Nat × Nat × Nat):Prop :=
 t.1.length=t.2.1/\t.2.1<=max a.length b.length+1/\(t.2.1=max a.length b.length+1->t.2.2=0)/\t.2.2<4294967296/\bY t.1 /\
 val t.1+4294967296 ^ t.2.1*(t.2.2+val (a.drop t.2.1)+val (b.drop t.2.1))=val a+val b
theorem Ew {P s x y va vb vo d c:Nat}(h:s+(x+y)=d+4294967296*c) :
  vo+P*d+P*4294967296*(c+va+vb)=vo+P*(s+(x+4294967296*va)+(y+4294967296*vb)):=by grind
theorem O9 (a b:List Nat)(la:a.length<=100000000)(lb:b.length<=100000000)(ha:bY a)(hb:bY b) :
  ∃ r,Ex E0 (.loop X3) (Xr a b [] 0 0 .u) r/\∃ o,bY o/\val o=val a+val b/\o.length<=max a.length b.length+1/\r=(.exit 0,Xr a b o o.length 0 (dB false)):=by
 refine Ex.inv (S:=fun t:List Nat × Nat × Nat=>Xr a b t.1 t.2.1 t.2.2 .u) (fun t=>max a.length b.length+2-t.2.1) (plI a b) _ ?_ ([],0,0) ?_
 ·rintro⟨o,k,s⟩ ⟨h1,h2,h3,h4,h5,h6⟩;simp only at h1 h2 h3 h4 h5 h6;have hr:=KU 0 a b o k s ae ae ae ha hb h1 h4;have xa:=dm ha k;have xb:=dm hb k
  by_cases hc:k<max a.length b.length\/0<s
  ·rw[if_pos hc]at hr;have hk:k<max a.length b.length+1:=by
    rcases hc with hc|hc
    ·omega
    ·rcases Qg1 k (max a.length b.length+1) with h|h
     ·exact h
     ·have:=h3 ae;omega
   refine .inl ⟨(o++[(s+(bE a k+bE b k)) % 4294967296],k+1,(s+(bE a k+bE b k)) / 4294967296),Ex.of hr,by simp only;omega,?_,?_,?_,?_,?_,?_⟩
   ·simp[h1]
   ·simp only;omega
   ·intro he;simp only at he ⊢;have e1:bE a k=0:=by unfold bE;rw[Qn2 ae];rfl
    have e2:bE b k=0:=by unfold bE;rw[Qn2 ae];rfl
    rw[e1,e2];omega
   ·simp only;omega
   ·exact iF h5 (fun x hx=>by simp at hx;subst hx;exact Qu0 _ ae)
   ·simp only;rw[val_append,h1,Qm1,<-h6,jc a k,jc b k];have hv:val [(s+(bE a k+bE b k)) % 4294967296]=(s+(bE a k+bE b k)) % 4294967296:=by simp[val]
    rw[hv];exact Ew ae
  ·rw[if_neg hc]at hr;refine .inr ⟨_,Ex.of hr,aA,o,h5,?_,ae,?_⟩
   ·rw[iG ae,iG ae]at h6;have:s=0:=ae;subst this;simpa using h6
   ·have:s=0:=ae;subst this;rw[h1]
 ·refine⟨rfl,aA,?_,aA,?_,?_⟩
  ·simp
  ·intro x hx;cases hx
  ·simp[val]
theorem X4 (a b:List Nat)(la:a.length<=100000000)(lb:b.length<=100000000)(ha:bY a)(hb:bY b) :
  Ca E0 aaD [.d (LD a),.d (LD b)] (.d (LD (enc (val a+val b))),none):=by
 obtain⟨r,hl,o,ho,hv,hol,rfl⟩:=O9 a b la lb ha hb;obtain⟨n0,hc⟩:=(iE o ae).get;rw[df ho,hv]at hc;have hlo:(LL o).length=o.length:=by simp[LL]
 generalize enc (val a+val b)=res at*;refine Ca.body (o:=.ret) (st1:=(st0 (.u::.u::.d (LD res)::vR) (if o.length=0 then [] else [.gK (o.length-1) 1 (LL o)]))) rfl (aM 228 f228:E0.fn _=_) rfl ?_ (by intro id h;cases h) ?_
 ·show Ex E0 (.seq aeR (.seq aeS (.seq aeT (.seq (.seq aeU (.block 0 (.loop X3))) plC)))) _ _;refine Ex.seq (st1:=(st0 (.d (LD a)::.d (LD b)::lI) [])) (Ex.of (n:=40) ?_)
   (Ex.seq (st1:=(st0 [.d (LD a),.d (LD b),.u,.d (.n 1),.u,.u,.u] [])) (Ex.of (n:=40) ?_)
   (Ex.seq (st1:=(st0 [.d (LD a),.d (LD b),.u,.d (.n 1),.d (.v (.int .u64 0)),.u,.u] [])) (Ex.of (n:=40) ?_)
   (Ex.seq (Ex.seq (st1:=Xr a b [] 0 0 .u) (Ex.of (n:=40) ?_) hl.block) (Ex.of (n:=n0+40) ?_))))
  ·simp[aeR,f228]
  ·simp[aeS,f228]
  ·simp[aeT,f228]
  ·simp[aeU,Xr,dY,dZ,f228]
  ·unfold Xr;simp only[LD]at hc ⊢
   by_cases hk0:o.length=0
   ·have hLo:LL o=[]:=Qo0 ae;have hv1:dY o.length=.d (.n 1):=by simp[dY,hk0]
    have D6:∀ l,dZ o.length l=[]:=by intro l;simp[dZ,hk0]
    rw[if_pos hk0,hv1,D6];rw[hLo]at hc;clear hl;simp[plC,f228,hc]
   ·have htk:(LL o).take o.length=LL o:=Qe1 ae;have hv1:dY o.length=.ls (.loc 0) (o.length-1) 1 0 o.length:=by simp[dY,hk0]
    have D6:∀ l,dZ o.length l=[.row (o.length-1) 1 l]:=by intro l;simp[dZ,hk0]
    rw[if_neg hk0,hv1,D6];clear hl;generalize LL o=es,o.length=k at*;simp[ah.view,plC,f228,hlo,htk,hc]
 ·simp[f228,LD]
abbrev Su:Nat:=229
abbrev xX:bK:=f229
def miB:aF:=xX.body.r.r.r.l.r.bl.lp
def Sw (a b:List Nat)(es:List D)(n k s:Nat)(t:FV):St:=(st0 [.d (LD a),.d (LD b),.u,.ls (.loc 0) 0 1 0 n,.d (.v (.int .u64 s)),.u,.u,dI n,dI k,t] [.row 0 1 es])
theorem O_ (n:Nat)(a b:List Nat)(es:List D)(k s:Nat):EX E0 (n+60) miB (Sw a b es k k s .u)=some (.exit 0,Sw a b es k k s (dB false)):=by
 unfold Sw;simp[miB,f229]
theorem H9 (n:Nat)(a b:List Nat)(es:List D)(l k s s' d:Nat)(hk:k<l)(hl:l<=1000000000)(la:a.length<=1000000000)(lb:b.length<=1000000000)(ha:bY a)(hb:bY b)(hs:s<=1)(he:es.length=l)
  (hz:es[k]?=some (.v (.int .u32 0))) (hd:d<4294967296) (hs':s'<=1) (hdig:bE a k+4294967296*s'=d+bE b k+s) :
  EX E0 (n+60) miB (Sw a b es l k s .u)=some (.norm,Sw a b (es.set k (.v (.int .u32 (d:Int)))) l (k+1) s' .u):=by
 have h1:=fun m=>jZ m a la k ae ha
 have h2:=fun m=>jZ m b lb k ae hb
 have xa:=dm ha k;have xb:=dm hb k;simp only[LD]at h1 h2;have aR:ai .i64 ((k:Int)+1)=(k:Int)+1:=wrap_i64 ae;generalize bE a k=x,bE b k=y at*;have hk':(k:Int)<(l:Int):=ae;have hk1:((k+1:Nat):Int)=(k:Int)+1:=ae;have w1:ai .u64 (ai .u64 ((x:Int)-(y:Int))-(s:Int))=((x:Int)-(y:Int)-(s:Int)) % 18446744073709551616:=by rw[gm,gm];omega
 have w3:ai .u32 (((x:Int)-(y:Int)-(s:Int)) % 18446744073709551616)=(d:Int):=by rw[dJ];omega
 have w4:Int.fdiv (((x:Int)-(y:Int)-(s:Int)) % 18446744073709551616) 9223372036854775808=(s':Int):=by rw[Qm0 _ ae];omega
 have hz2:=idx hz;unfold Sw;rw[hk1];simp[IntKind.bits,miB,f229,LD,hk',h1,h2,aR,w1,w3,w4,hz,hz2]
def miI (a b:List Nat)(t:List Nat × Nat):Prop :=
 t.1.length<=a.length/\t.2<=1/\bY t.1/\b_ a t.1.length+4294967296 ^ t.1.length*t.2=val t.1+b_ b t.1.length
theorem A7 {P x y va vb vo s d s':Nat}(h:va+P*s=vo+vb)(hd:x+4294967296*s'=d+y+s):va+P*x+P*4294967296*s'=vo+P*d+(vb+P*y):=by
 have:P*x+P*4294967296*s'=P*d+P*y+P*s:=by
  rw[Q52,<-Xb0,<-Xb0,<-Xb0,hd]
 omega
theorem KV (a b:List Nat)(la:a.length<=1000000000)(lb:b.length<=a.length)(ha:bY a)(hb:bY b)(hab:val b<=val a) :
  ∃ r,Ex E0 (.loop miB) (Sw a b (LL (row0 [] a.length)) a.length 0 0 .u) r/\∃ o,bY o/\val o=val a-val b/\o.length=a.length/\r=(.exit 0,Sw a b (LL o) a.length a.length 0 (dB false)):=by
 refine Ex.inv (S:=fun t:List Nat × Nat=>Sw a b (LL (row0 t.1 (a.length-t.1.length))) a.length t.1.length t.2 .u) (fun t=>a.length-t.1.length) (miI a b) _ ?_ ([],0) ?_
 ·rintro⟨o,s⟩ ⟨h1,h2,h3,h4⟩;simp only at h1 h2 h3 h4;have xa:=dm ha o.length;have xb:=dm hb o.length
  by_cases hk:o.length<a.length
  ·obtain⟨m,hm⟩:∃ m,a.length-o.length=m+1:=⟨a.length-o.length-1,ae⟩
   obtain⟨d,s',hd,hs',hdig⟩:∃ d s',d<4294967296/\s'<=1/\bE a o.length+4294967296*s'=d+bE b o.length+s:=by
    by_cases hc:bE b o.length+s<=bE a o.length
    ·exact⟨bE a o.length-(bE b o.length+s),0,ae,ae,ae⟩
    ·exact⟨bE a o.length+4294967296-(bE b o.length+s),1,ae,ae,ae⟩
   have hr:=H9 0 a b (LL (row0 o (m+1))) a.length o.length s s' d hk la la ae ha hb h2 (by rw[qW];omega) (NC o m) hd hs' hdig;rw[H_]at hr;refine .inl ⟨(o++[d],s'),?_,?_,?_,?_,?_,?_⟩
   ·simp only[hm,Qb0,Qg0,Qr1];rw[show a.length-(o.length+(0+1))=m by omega];exact Ex.of hr
   ·simp only[Qb0,Qg0,Qr1];omega
   ·simp only[Qb0,Qg0,Qr1];omega
   ·exact hs'
   ·exact iF h3 (fun x hx=>by simp at hx;subst hx;exact hd)
   ·simp only[Qb0,Qg0,Qr1,Qx1];rw[eF,eF,val_append,Qm1];have hv:val [d]=d:=by simp[val]
    rw[hv];exact A7 h4 hdig
  ·have he:o.length=a.length:=ae;rw[he,fM (Qd1 _),fM lb]at h4;have hlt:=nT h3;rw[he]at hlt;have hs0:s=0:=by
    rcases Qg1 s 1 with h|h
    ·omega
    ·have:s=1:=ae;subst this;generalize 4294967296 ^ a.length=p at*;omega
   subst hs0;refine .inr ⟨_,?_,?_,o,h3,ae,he,rfl⟩
   ·simp only[he,Xo1,Ey];exact Ex.of (O_ 0 a b (LL o) a.length 0)
   ·simp
 ·refine⟨aA,aA,?_,?_⟩
  ·intro x hx;cases hx
  ·simp[val,b_]
theorem A8 (a b:List Nat)(la:a.length<=1000000000)(lb:b.length<=a.length)(ha:bY a)(hb:bY b)(hab:val b<=val a) :
  Ca E0 Su [.d (LD a),.d (LD b)] (.d (LD (enc (val a-val b))),none):=by
 obtain⟨r,hl,o,ho,hv,hol,rfl⟩:=KV a b la lb ha hb hab;obtain⟨n0,hc⟩:=(iE o ae).get;rw[df ho,hv]at hc;have hlo:(LL o).length=a.length:=by simp[LL,hol]
 have hla:(LL a).length=a.length:=by simp[LL]
 have htk:(LL o).take a.length=LL o:=Qe1 ae;have hz:=vV a.length;generalize enc (val a-val b)=res at*;refine Ca.body (o:=.ret) (st1:=(st0 (.u::.u::.d (LD res)::sO) [.gK 0 1 (LL o)])) rfl (aM 229 f229:E0.fn _=_) rfl ?_ (by intro id h;cases h) ?_
 ·show Ex E0 (.seq xX.body.l (.seq xX.body.r.l (.seq xX.body.r.r.l (.seq (.seq xX.body.r.r.r.l.l (.block 0 (.loop miB))) xX.body.r.r.r.r)))) _ _;refine Ex.seq (st1:=(st0 (.d (LD a)::.d (LD b)::zZ) [])) (Ex.of (n:=40) ?_)
   (Ex.seq (st1:=(st0 (.d (LD a)::.d (LD b)::.u::.ls (.loc 0) 0 1 0 a.length::qO) [.row 0 1 (LL (row0 [] a.length))])) (Ex.of (n:=40) ?_)
   (Ex.seq (st1:=(st0 (.d (LD a)::.d (LD b)::.u::.ls (.loc 0) 0 1 0 a.length::.d (.v (.int .u64 0))::lI) [.row 0 1 (LL (row0 [] a.length))])) (Ex.of (n:=40) ?_)
   (Ex.seq (Ex.seq (Ex.of (n:=40) ?_) hl.block) (Ex.of (n:=n0+40) ?_))))
  ·simp[f229]
  ·have hm1:(a.length:Int)*4<=1099511627776:=ae;have hm2:(a.length:Int)<=1099511627776:=ae;rw[hz];simp[f229,LD,hla,hm1,hm2,most]
  ·simp[f229]
  ·unfold Sw;simp[f229,LD,hla]
  ·unfold Sw;simp only[LD]at hc ⊢;clear hl;generalize LL o=es at*;simp[ah.view,f229,hlo,htk,hc]
 ·simp[f229,LD]
abbrev aby:Nat:=233
abbrev A9:bK:=f233
theorem Sy {r:Nat}(hr:r<4294967296):KW .u64 (r:Int) 32=(r:Int)*4294967296:=by
 rw[Ah,<-bS];have h:(2:Int) ^ (min (Int.toNat 32) (IntKind.bits .u64))=4294967296:=by rfl
 rw[h,wrap_u64 ae]
theorem A_ {r x:Nat}(hr:r<4294967296)(hx:x<4294967296) :
  Ba .u64 ((r:Int)*4294967296) (x:Int)=(r:Int)*4294967296+(x:Int):=by
 rw[xY,<-bS]
 change ai .u64 ((BitVec.ofInt 64 ((r:Int)*4294967296) ||| BitVec.ofInt 64 (x:Int)).toNat:Int)=_
 rw[BitVec.ofInt_natCast];have hs:r <<< 32=r*4294967296:=by rw[Nat.shiftLeft_eq]
 have h0:((r:Int)*(4294967296:Int))=((r <<< 32:Nat):Int):=by rw[hs];omega
 have e1:BitVec.ofInt 64 ((r:Int)*(4294967296:Int))=BitVec.ofNat 64 (r <<< 32):=by
  rw[h0,BitVec.ofInt_natCast]
 have l1:r <<< 32<2 ^ 64:=by rw[hs];omega
 have l2:x<2 ^ 64:=ae;have l3:x<2 ^ 32:=ae;rw[e1,BitVec.toNat_or,BitVec.toNat_ofNat,BitVec.toNat_ofNat,Qv2 l1,Qv2 l2,<-Xn0 l3,hs];rw[wrap_u64 ae];omega
theorem ze {r d x B:Nat}(hr:r<d)(hx:x<B):(r*B+x) / d<B:=by
 rw[Qt1 ae];have h1:=Qe0 B hr;rw[Nat.succ_mul]at h1;rw[Ql1 B d];omega
def smB:aF:=A9.body.r.r.l.r.bl.lp
def Sz (a:List Nat)(es:List D)(d n:Nat)(k:Int)(r:Nat)(t:FV):St:=(st0 [.d (LD a),.d (.v (.int .u32 d)),.u,.u,.ls (.loc 0) 0 1 0 n,.d (.v (.int .u64 r)),dI k,t] [.row 0 1 es])
theorem Pb (n:Nat)(a:List Nat)(es:List D)(d l r:Nat):EX E0 (n+60) smB (Sz a es d l (-1) r .u)=some (.exit 0,Sz a es d l (-1) r (dB false)):=by
 unfold Sz;simp[smB,f233]
theorem Ia (n:Nat)(a:List Nat)(es:List D)(l d k r x:Nat)(hk:k<l)(hl:l<=1000000000)(hx:a[k]?=some x)(hx32:x<4294967296)(hd:d<4294967296)(hr:r<d)(he:es.length=l)
  (hz:es[k]?=some (.v (.int .u32 0))) :
  EX E0 (n+60) smB (Sz a es d l k r .u)=some (.norm,Sz a (es.set k (.v (.int .u32 (((r*4294967296+x) / d:Nat):Int)))) d l ((k:Int)-1) ((r*4294967296+x) % d) .u):=by
 have hdec:ai .i64 ((k:Int)-1)=(k:Int)-1:=wrap_i64 ae;have hk0:(0:Int)<=(k:Int):=ae;have hk':k<l:=hk;have hxa:(LL a)[k]?=some (.v (.int .u32 (x:Int))):=by simp[LL,hx]
 have ahE:=idx hxa;have hz2:=idx hz;have hla:k<a.length:=(bq hx)
 have hq:(r*4294967296+x) / d<4294967296:=ze hr hx32;have hm:(r*4294967296+x) % d<d:=Qu0 _ ae;have w2:ai .u64 (x:Int)=(x:Int):=wrap_u64 ae;have w4:ai .u64 (d:Int)=(d:Int):=wrap_u64 ae;have hd0:¬ ((d:Int)=0):=ae;have X5:¬ d=0:=ae;obtain⟨R,hR⟩:∃ R:Nat,R=r*4294967296:=⟨_,rfl⟩
 obtain⟨Y,hY⟩:∃ Y:Nat,Y=r*4294967296+x:=⟨_,rfl⟩
 have w1:KW .u64 (r:Int) 32=(R:Int):=by rw[Sy ae];omega
 have w3:Ba .u64 (R:Int) (x:Int)=(Y:Int):=by
  have:=A_ (r:=r) (x:=x) ae hx32;rw[show(R:Int)=(r:Int)*4294967296 by omega,this];omega
 rw[<-hY]at hq hm ⊢;clear hY hR;have w5:Int.tdiv (Y:Int) (d:Int)=((Y / d:Nat):Int):=by rw[Q60 ae,Xy2]
 have w6:Int.tmod (Y:Int) (d:Int)=((Y % d:Nat):Int):=by rw[Q61 ae,Int.natCast_emod]
 generalize Y / d=qq,Y % d=mm at*;have w7:ai .u64 (qq:Int)=(qq:Int):=wrap_u64 ae;have w8:ai .u32 (qq:Int)=(qq:Int):=wrap_u32 ae;unfold Sz;simp only[LD];generalize LL a=xs at*;simp[IntKind.bits,smB,f233,hk',hk0,hdec,hxa,ahE,hz,hz2,w1,w2,w3,w4,w5,w6,w7,w8,hd0,X5]
def jV (m:Nat)(q:List Nat):List Nat:=List.replicate m 0++q
theorem ND (q:List Nat)(m:Nat):(LL (jV (m+1) q))[m]?=some (.v (.int .u32 0)):=by
 simp[LL,jV,Qa0]
theorem Ib (q:List Nat)(m v:Nat):(LL (jV (m+1) q)).set m (.v (.int .u32 (v:Int)))=LL (jV m (v::q)):=by
 simp only[LL,jV,Qp2,List.map_replicate,List.replicate_succ',Qp0];rw[Q30 _ _ aA];simp
theorem qX (q:List Nat)(m:Nat):(LL (jV m q)).length=m+q.length:=by simp[LL,jV]
def smI (a:List Nat)(d:Nat)(t:Nat × List Nat × Nat):Prop :=
 t.1<=a.length/\t.1+t.2.1.length=a.length/\t.2.2<d/\bY t.2.1/\val (a.drop t.1)=val t.2.1*d+t.2.2
theorem KX {B V d r x Y:Nat}(hY:Y=r*B+x):x+B*(V*d+r)=(Y / d+B*V)*d+Y % d:=by
 have:=Xr0 Y d;rw[Qp1];have e:B*(V*d+r)=B*V*d+r*B:=by rw[Xb0,Q52,Ql1 r B]
 rw[e,Ql1 (Y / d) d];omega
theorem KY (a:List Nat)(d:Nat)(la:a.length<=1000000000)(ha:bY a)(hd:d<4294967296)(hd0:0<d) :
  ∃ r,Ex E0 (.loop smB) (Sz a (LL (jV a.length [])) d a.length ((a.length:Int)-1) 0 .u) r /\
   ∃ q m,bY q/\q.length=a.length/\val q=val a / d/\m=val a % d/\r=(.exit 0,Sz a (LL q) d a.length (-1) m (dB false)):=by
 refine Ex.inv (S:=fun t:Nat × List Nat × Nat=>Sz a (LL (jV t.1 t.2.1)) d a.length ((t.1:Int)-1) t.2.2 .u) (fun t=>t.1) (smI a d) _ ?_ (a.length,[],0) ?_
 ·rintro⟨k,q,r⟩ ⟨h1,h2,h3,h4,h5⟩;simp only at h1 h2 h3 h4 h5;cases k with
  | zero =>
   refine .inr ⟨_,?_,?_,q,r,h4,ae,?_,?_,rfl⟩
   ·have:=Pb 0 a (LL q) d a.length r;simpa[jV] using Ex.of this
   ·simp
   ·rw[Xu1]at h5;rw[h5,Ql1,Xl0 hd0,Xa0 h3];rfl
   ·rw[Xu1]at h5;rw[h5,Ql1,X01,Qv2 h3]
  | succ k =>
   have hx:a[k]?=some (a[k]'(by omega)):=Qa1 ae;have hx32:a[k]'(by omega)<4294967296:=ha _ (Qi0 _);have hat:bE a k=a[k]'(by omega):=by simp[bE,hx]
   generalize a[k]'(by omega)=x at hx hx32 hat;have hr:=Ia 0 a (LL (jV (k+1) q)) a.length d k r x ae la hx hx32 hd h3 (by rw[qX];omega) (ND q k);rw[Ib]at hr;refine .inl ⟨(k,(r*4294967296+x) / d::q,(r*4294967296+x) % d),?_,aA,?_,?_,?_,?_,?_⟩
   ·simp only;rw[show(((k+1:Nat):Int)-1)=(k:Int) by omega];exact Ex.of hr
   ·simp only;omega
   ·simp only[Qg0];omega
   ·exact Qu0 _ hd0
   ·intro y hy;rcases Qi2.1 hy with rfl|hy
    ·exact ze h3 hx32
    ·exact h4 y hy
   ·simp only[val];rw[jc,hat,h5];exact KX rfl
 ·refine⟨aA,aA,hd0,?_,?_⟩
  ·intro x hx;cases hx
  ·simp[val]
theorem SA (a:List Nat)(d:Nat)(la:a.length<=1000000000)(ha:bY a)(hd:d<4294967296)(hd0:0<d) :
  Ca E0 aby [.d (LD a),.d (.v (.int .u32 d))] (.d (.t [LD (enc (val a / d)),.v (.int .u32 ((val a % d:Nat):Int))]),none):=by
 obtain⟨r,hl,q,m,hq,hql,hv,hm,rfl⟩:=KY a d la ha hd hd0;obtain⟨n0,hc⟩:=(iE q ae).get;rw[df hq,hv]at hc;have hlo:(LL q).length=a.length:=by simp[LL,hql]
 have hla:(LL a).length=a.length:=by simp[LL]
 have htk:(LL q).take a.length=LL q:=Qe1 ae;have hz:LL (jV a.length [])=List.replicate a.length (.v (.int .u32 0)):=by simp[LL,jV]
 have hmd:m<4294967296:=by have:=Qu0 (val a) hd0;omega
 have hw:ai .u32 (m:Int)=(m:Int):=wrap_u32 ae;rw[<-hm];generalize enc (val a / d)=res at*;refine Ca.body (o:=.ret) (st1:=(st0 (.u::.u::.d (LD res)::.d (.v (.int .u32 m))::vR) [.gK 0 1 (LL q)])) rfl (aM 233 f233:E0.fn _=_) rfl ?_ (by intro id h;cases h) ?_
 ·show Ex E0 (.seq A9.body.l (.seq A9.body.r.l (.seq (.seq A9.body.r.r.l.l (.block 0 (.loop smB))) A9.body.r.r.r))) _ _;refine Ex.seq (st1:=(st0 (.d (LD a)::.d (.v (.int .u32 d))::qO) [])) (Ex.of (n:=40) ?_)
   (Ex.seq (st1:=(st0 [.d (LD a),.d (.v (.int .u32 d)),.u,.u,.ls (.loc 0) 0 1 0 a.length,.d (.v (.int .u64 0)),.u,.u] [.row 0 1 (LL (jV a.length []))])) (Ex.of (n:=40) ?_)
   (Ex.seq (Ex.seq (Ex.of (n:=40) ?_) hl.block) (Ex.of (n:=n0+40) ?_)))
  ·simp[f233]
  ·have hm1:(a.length:Int)*4<=1099511627776:=ae;have hm2:(a.length:Int)<=1099511627776:=ae;rw[hz];simp[f233,LD,hla,hm1,hm2,most]
  ·have hdec:ai .i64 ((a.length:Int)-1)=(a.length:Int)-1:=wrap_i64 ae;unfold Sz;simp[f233,LD,hla,hdec]
  ·unfold Sz;simp only[LD]at hc ⊢;clear hl;generalize LL q=es at*;simp[ah.view,f233,hlo,htk,hc,hw]
 ·simp[f233,LD,uz]
abbrev SB:Nat:=188
abbrev Bb:bK:=f188
theorem Ai:∀ (O:List Nat) (m v:Nat),m<O.length->val (O.set m v)+4294967296 ^ m*bE O m=val O+4294967296 ^ m*v
 | [],m,v,h=>by simp at h
 | y::r,0,v,_=>by simp[val,bE];omega
 | y::r,m+1,v,h=>by
  have ih:=Ai r m v (by simpa using h);rw[List.set_cons_succ,val,val];have:bE (y::r) (m+1)=bE r m:=by simp[bE]
  rw[this,Qm1];generalize 4294967296 ^ m=p,bE r m=q at*;have e1:p*4294967296*q=4294967296*(p*q):=by grind
  have e2:p*4294967296*v=4294967296*(p*v):=by grind
  rw[e1,e2];omega
theorem F_ {O:List Nat}(h:bY O){m v:Nat}(hv:v<4294967296):bY (O.set m v):=by
 intro x hx;rcases Q20 hx with h1|h1
 ·exact h x h1
 ·omega
def Ga:aF:=Bb.body.r.r.l.r.bl.lp
def tjB:aF:=Ga.r.r.l.bl.r.r.r.bl.lp
def SC (a b O:List Nat)(n i s j:Nat)(t:FV):St:=(st0 [.d (LD a),.d (LD b),.u,.ls (.loc 0) 0 1 0 n,dI i,.d (.v (.int .u64 s)),dI j,dI a.length,dI i,.u,t] [.row 0 1 (LL O)])
theorem Pf (n:Nat)(a b O:List Nat)(l i j:Nat)(hj:¬ j<b.length):EX E0 (n+60) tjB (SC a b O l i 0 j .u)=some (.exit 2,SC a b O l i 0 j (dB false)):=by
 have hlb:(LL b).length=b.length:=by simp[LL]
 unfold SC;simp only[LD];generalize LL b=bs,LL a=as' at*;simp[tjB,Ga,f188,hlb,hj]
theorem Ic (n:Nat)(a b O:List Nat)(l i s j T:Nat)(hc:j<b.length\/0<s)(hm:i+j<l)(hl:l<=1000000000)(la:a.length<=1000000000)(lb:b.length<=1000000000)(ha:bY a)(hb:bY b)(hO:bY O)
  (he:O.length=l) (hs:s<4294967296) (hT:T=s+(bE O (i+j)+bE a i*bE b j)) :
  EX E0 (n+60) tjB (SC a b O l i s j .u)=some (.norm,SC a b (O.set (i+j) (T % 4294967296)) l i (T / 4294967296) (j+1) .u):=by
 have h1:=fun m=>jZ m a la i ae ha
 have h2:=fun m=>jZ m b lb j ae hb
 have xa:=dm ha i;have xb:=dm hb j;have xo:=dm hO (i+j);have ho:(LL O)[i+j]?=some (.v (.int .u32 (bE O (i+j):Int))):=by
  have:O[i+j]?=some (O[i+j]'(by omega)):=Qa1 ae;simp[LL,bE,this]
 have hset:LL (O.set (i+j) (T % 4294967296))=(LL O).set (i+j) (.v (.int .u32 ((T % 4294967296:Nat):Int))):=by simp[LL,Q62]
 have hlb:(LL b).length=b.length:=by simp[LL]
 simp only[LD]at h1 h2;have aR:ai .i64 ((j:Int)+1)=(j:Int)+1:=wrap_i64 ae;have hk1:((j+1:Nat):Int)=(j:Int)+1:=ae;unfold SC;rw[hset,hk1];generalize bE a i=x,bE b j=y,bE O (i+j)=o at*;have hxy:x*y<=4294967295*4294967295:=Q72 ae ae;have wm:ai .i64 ((i:Int)+(j:Int))=((i+j:Nat):Int):=by rw[wrap_i64 ae];omega
 generalize i+j=m at*;obtain⟨P,hP⟩:∃ P:Nat,P=x*y:=⟨_,rfl⟩
 have w1:ai .u64 ((x:Int)*(y:Int))=(P:Int):=by rw[<-Int.natCast_mul,<-hP];exact wrap_u64 ae
 rw[<-hP]at hT hxy;have w2:ai .u64 (o:Int)=(o:Int):=wrap_u64 ae;obtain⟨Q,hQ⟩:∃ Q:Nat,Q=o+P:=⟨_,rfl⟩
 have w3:ai .u64 ((o:Int)+(P:Int))=(Q:Int):=by rw[wrap_u64 ae];omega
 have w4:ai .u64 ((s:Int)+(Q:Int))=(T:Int):=by rw[wrap_u64 ae];omega
 have w5:ai .u32 (T:Int)=((T % 4294967296:Nat):Int):=by rw[dJ];omega
 have w6:Int.fdiv (T:Int) 4294967296=((T / 4294967296:Nat):Int):=by rw[Qm0 _ ae];omega
 clear hP hQ hT hxy;generalize T % 4294967296=lo,T / 4294967296=hi at*;have hm0:(0:Int)<=(m:Int):=ae;have ho2:=idx ho;simp only[LD];generalize LL b=bs,LL a=as',LL O=es at*
 by_cases hj:j<b.length
 ·simp[IntKind.bits,tjB,Ga,f188,hlb,hj,h1,h2,aR,wm,hm,hm0,ho,ho2,w1,w2,w3,w4,w5,w6]
 ·have hs0:0<s:=ae;simp[IntKind.bits,tjB,Ga,f188,hlb,hj,hs0,h1,h2,aR,wm,hm,hm0,ho,ho2,w1,w2,w3,w4,w5,w6]
theorem KZ {V V' P o lo hi s xy:Nat}(h1:V'+P*o=V+P*lo)(h2:s+(o+xy)=lo+4294967296*hi):V'+hi*(P*4294967296)=V+s*P+P*xy:=by
 have h3:P*(s+(o+xy))=P*(lo+4294967296*hi):=by rw[h2]
 grind
def tjI (a b:List Nat)(n i:Nat)(t:List Nat × Nat × Nat):Prop :=
 t.1.length=n/\bY t.1/\t.2.1<4294967296/\val t.1+t.2.1*4294967296 ^ (i+t.2.2)=b_ a i*val b+4294967296 ^ i*(bE a i*b_ b t.2.2)
theorem Bc {a b:List Nat}{i j:Nat}(hj:b.length<=j):b_ a i*val b+4294967296 ^ i*(bE a i*b_ b j)=b_ a (i+1)*val b:=by
 rw[fM hj,eF,Qp1,Q52]
theorem SE {a b:List Nat}(ha:bY a)(hb:bY b)(i:Nat):b_ a (i+1)*val b<4294967296 ^ (i+1+b.length):=by
 have h1:=om ha (i+1);have h2:=nT hb;rw[Qx0];exact Nat.mul_lt_mul_of_lt_of_le h1 (Nat.le_of_lt h2) (Qq2 ae)
theorem K3 {a b O:List Nat}{i j s:Nat}(ha:bY a)(hb:bY b)(hj:b.length<=j)
  (h:val O+s*4294967296 ^ (i+j)=b_ a i*val b+4294967296 ^ i*(bE a i*b_ b j)) (hs:0<s):j=b.length:=by
 rw[Bc hj]at h;have h1:=SE ha hb i;rcases Qg1 b.length j with h2|h2
 ·exfalso;have h3:4294967296 ^ (i+1+b.length)<=4294967296 ^ (i+j):=Qt0 ae ae;have h4:4294967296 ^ (i+j)<=s*4294967296 ^ (i+j):=Nat.le_mul_of_pos_left _ hs;omega
 ·omega
theorem Ie (a b O:List Nat)(i:Nat)(hi:i<a.length)(la:a.length<=100000000)(lb:b.length<=100000000)(ha:bY a)(hb:bY b)(hO:bY O)(he:O.length=a.length+b.length)(hv:val O=b_ a i*val b) :
  ∃ r,Ex E0 (.loop tjB) (SC a b O (a.length+b.length) i 0 0 .u) r/\∃ O' j,bY O'/\O'.length=a.length+b.length/\val O'=b_ a (i+1)*val b /\
   r=(.exit 2,SC a b O' (a.length+b.length) i 0 j (dB false)):=by
 refine Ex.inv (S:=fun t:List Nat × Nat × Nat=>SC a b t.1 (a.length+b.length) i t.2.1 t.2.2 .u) (fun t=>b.length+2-t.2.2) (tjI a b (a.length+b.length) i) _ ?_ (O,0,0) ?_
 ·rintro⟨O,s,j⟩ ⟨h1,h2,h3,h4⟩;simp only at h1 h2 h3 h4
  by_cases hc:j<b.length\/0<s
  ·have hjb:j<=b.length:=by
    rcases Qg1 j b.length with h|h
    ·omega
    ·exact Nat.le_of_eq (K3 ha hb h h4 ae)
   have hr:=Ic 0 a b O (a.length+b.length) i s j _ hc ae ae ae ae ha hb h2 h1 h3 rfl;have hset:=Ai O (i+j) ((s+(bE O (i+j)+bE a i*bE b j)) % 4294967296) ae;have xo:=dm h2 (i+j);have xa:=dm ha i;have xb:=dm hb j;have hxy:bE a i*bE b j<=4294967295*4294967295:=Q72 ae ae;have hT:(s+(bE O (i+j)+bE a i*bE b j))=(s+(bE O (i+j)+bE a i*bE b j)) % 4294967296+4294967296*((s+(bE O (i+j)+bE a i*bE b j)) / 4294967296):=ae;refine .inl ⟨(O.set (i+j) ((s+(bE O (i+j)+bE a i*bE b j)) % 4294967296),(s+(bE O (i+j)+bE a i*bE b j)) / 4294967296,j+1),Ex.of hr,?_,?_,?_,?_,?_⟩
   ·simp only;omega
   ·simp[h1]
   ·exact F_ h2 (Qu0 _ ae)
   ·simp only;generalize bE a i*bE b j=xy at*;omega
   ·simp only;have:=KZ hset hT;rw[show i+(j+1)=(i+j)+1 by omega,Qm1,this,h4,eF];rw[Qx0];generalize 4294967296 ^ i=p;generalize 4294967296 ^ j=q;grind
  ·have hs:s=0:=ae;subst hs;have hj:b.length<=j:=ae;rw[Bc hj]at h4;refine .inr ⟨_,Ex.of (Pf 0 a b O (a.length+b.length) i j ae),aA,O,j,h2,h1,ae,rfl⟩
 ·exact⟨he,hO,aA,by simp[hv,b_,val]⟩
def KL (a b O:List Nat)(i:Nat)(t:FV):St:=(st0 [.d (LD a),.d (LD b),.u,.ls (.loc 0) 0 1 0 (a.length+b.length),.u,.u,.u,dI a.length,dI i,t,.u] [.row 0 1 (LL O)])
theorem Ig (a b:List Nat)(la:a.length<=100000000)(lb:b.length<=100000000)(ha:bY a)(hb:bY b) :
  ∃ r,Ex E0 (.loop Ga) (KL a b (row0 [] (a.length+b.length)) 0 .u) r/\∃ O,bY O/\O.length=a.length+b.length/\val O=val a*val b/\r=(.exit 0,KL a b O a.length (dB false)):=by
 refine Ex.inv (S:=fun t:List Nat × Nat=>KL a b t.1 t.2 .u) (fun t=>a.length-t.2) (fun t=>t.2<=a.length/\t.1.length=a.length+b.length/\bY t.1/\val t.1=b_ a t.2*val b) _ ?_ (row0 [] (a.length+b.length),0) ?_
 ·rintro⟨O,i⟩ ⟨h1,h2,h3,h4⟩;simp only at h1 h2 h3 h4
  by_cases hi:i<a.length
  ·obtain⟨r,hr,O',j,g1,g2,g3,rfl⟩:=Ie a b O i hi la lb ha hb h3 h2 h4;refine .inl ⟨(O',i+1),?_,by simp only;omega,by simp only;omega,g2,g1,g3⟩;have aR:ai .i64 ((i:Int)+1)=(i:Int)+1:=wrap_i64 ae;have hk1:((i+1:Nat):Int)=(i:Int)+1:=ae;show Ex E0 (.seq Ga.l (.seq Ga.r.l (.seq (.block 1 (.seq Ga.r.r.l.bl.l (.seq Ga.r.r.l.bl.r.l (.seq Ga.r.r.l.bl.r.r.l (.block 2 (.loop tjB)))))) Ga.r.r.r))) _ _;refine Ex.seq (st1:=KL a b O i (dB true)) (Ex.of (n:=40) ?_) (Ex.seq (st1:=KL a b O i (dB true)) (Ex.of (n:=40) ?_) (Ex.seq (Ex.gp
    (Ex.seq (st1:={KL a b O i .u with vars:=[.d (LD a),.d (LD b),.u,.ls (.loc 0) 0 1 0 (a.length+b.length),dI i,.u,.u,dI a.length,dI i,.u,.u]}) (Ex.of (n:=40) ?_)
    (Ex.seq (st1:={KL a b O i .u with vars:=[.d (LD a),.d (LD b),.u,.ls (.loc 0) 0 1 0 (a.length+b.length),dI i,.d (.v (.int .u64 0)),.u,dI a.length,dI i,.u,.u]}) (Ex.of (n:=40) ?_)
    (Ex.seq (Ex.of (n:=40) ?_) hr.block)))) (Ex.of (n:=40) ?_)))
   ·unfold KL;simp[Ga,f188,hi]
   ·unfold KL;simp[Ga,f188]
   ·unfold KL;simp[Ga,f188]
   ·unfold KL;simp[Ga,f188]
   ·unfold KL SC;simp[Ga,f188]
   ·unfold KL SC;rw[hk1];simp[Ga,f188,aR]
  ·have he:i=a.length:=ae;subst he;rw[fM (Qd1 _)]at h4;refine .inr ⟨_,Ex.of (n:=60) ?_,?_,O,h3,h2,h4,rfl⟩
   ·unfold KL;simp[Ga,f188]
   ·simp
 ·refine⟨aA,by simp[row0],?_,?_⟩
  ·intro x hx;simp[row0]at hx;omega
  ·have:∀ m,val (List.replicate m 0)=0:=by
    intro m
    induction m with
    | zero=>rfl
    | succ m ih=>rw[Xg0,val,ih]
   simp[row0,b_,val,this]
theorem Ih (a b:List Nat)(la:a.length<=100000000)(lb:b.length<=100000000)(ha:bY a)(hb:bY b) :
  Ca E0 SB [.d (LD a),.d (LD b)] (.d (LD (enc (val a*val b))),none):=by
 obtain⟨r,hl,o,ho,hol,hv,rfl⟩:=Ig a b la lb ha hb;obtain⟨n0,hc⟩:=(iE o ae).get;rw[df ho,hv]at hc;have hlo:(LL o).length=a.length+b.length:=by simp[LL,hol]
 have hla:(LL a).length=a.length:=by simp[LL]
 have hlb:(LL b).length=b.length:=by simp[LL]
 have htk:(LL o).take (a.length+b.length)=LL o:=Qe1 ae;have hz:=vV (a.length+b.length);generalize enc (val a*val b)=res at*;refine Ca.body (o:=.ret) (st1:=(st0 (.u::.u::.d (LD res)::zZ) [.gK 0 1 (LL o)])) rfl (aM 188 f188:E0.fn _=_) rfl ?_ (by intro id h;cases h) ?_
 ·show Ex E0 (.seq Bb.body.l (.seq Bb.body.r.l (.seq (.seq Bb.body.r.r.l.l (.block 0 (.loop Ga))) Bb.body.r.r.r))) _ _;refine Ex.seq (st1:=(st0 (.d (LD a)::.d (LD b)::NB) [])) (Ex.of (n:=40) ?_)
   (Ex.seq (st1:=(st0 (.d (LD a)::.d (LD b)::.u::.ls (.loc 0) 0 1 0 (a.length+b.length)::sO) [.row 0 1 (LL (row0 [] (a.length+b.length)))])) (Ex.of (n:=40) ?_)
   (Ex.seq (Ex.seq (Ex.of (n:=40) ?_) hl.block) (Ex.of (n:=n0+40) ?_)))
  ·simp[f188]
  ·have hw:ai .i64 ((a.length:Int)+(b.length:Int))=((a.length+b.length:Nat):Int):=by rw[wrap_i64 ae];omega
   have hmb:a.length+b.length<=200000000:=ae;rw[hz];generalize a.length+b.length=m at*;have hm1:(m:Int)*4<=1099511627776:=ae;have hm2:(m:Int)<=1099511627776:=ae;simp[f188,LD,hla,hlb,hw,hm1,hm2,most]
  ·unfold KL;simp[f188,LD,hla]
  ·unfold KL;simp only[LD]at hc ⊢;clear hl;generalize LL o=es,a.length+b.length=m at*;simp[ah.view,f188,hlo,htk,hc]
 ·simp[f188,LD]
abbrev aaE:Nat:=226
abbrev zf:bK:=f226
abbrev ahF:Nat:=183
abbrev abB:bK:=f183
theorem jw {d:Nat}(h0:0<d)(h:d<4294967296):enc d=[d]:=by
 rw[enc,if_neg ae,Qv2 h,Xa0 h];simp[enc]
theorem dD:enc 0=[]:=by simp[enc]
theorem Ii (r:Nat)(h:r<4294967296):trim [r]=enc r:=by
 rw[df (by intro x hx;simp at hx;omega)];simp[val]
theorem SF (a:List Nat)(d:Nat)(la:a.length<=1000000000)(ha:bY a)(hd:d<4294967296)(hd0:0<d) :
  Ca E0 aaE [.d (LD a),.d (LD (enc d))] (.d (.t [LD (enc (val a / d)),LD (enc (val a % d))]),none):=by
 obtain⟨n0,hs⟩:=(SA a d la ha hd hd0).any;have hm:val a % d<4294967296:=by have:=Qu0 (val a) hd0;omega
 obtain⟨n1,hc⟩:=(iE [val a % d] aA).any;replace hs:=hs (n0+n1) ae;replace hc:=hc (n0+n1) ae;generalize n0+n1=N at*;rw[Ii _ hm]at hc;rw[jw hd0 hd];generalize enc (val a / d)=q,val a % d=m at*;generalize enc m=r at*;simp only[LD,LL,Qe2,Qc1]at hs hc ⊢;refine Ca.bP (n:=N+60) ?_;rw[av rfl (k226:E0.fn _=_) rfl];generalize List.map (fun(x:Nat)=>D.v (Value.int IntKind.u32 (x:Int))) a=as' at*;simp[f226,uz,hs,hc]
def gcB:aF:=abB.body.r.l.bl.lp
def DY (a b:Nat)(t:FV):St:=(st0 [.d (LD (enc a)),.d (LD (enc b)),.u,.u,t] [])
theorem gq {n k:Nat}(h:n<4294967296 ^ k):(enc n).length<=k:=by
 induction k generalizing n with
 | zero => have : n = 0 := by simp at h;omega
           subst this;simp[dD]
 | succ k ih =>
  rw[enc];split
  ·simp
  ·simp only[Qg0];have:=ih (n:=n / 4294967296) (by rw[Qm1]at h;omega);omega
theorem X6 (a:Nat):Ex E0 gcB (DY a 0 .u) (.exit 0,DY a 0 (dB false)):=by
 refine Ex.of (n:=40) ?_;unfold DY;simp only[dD,LD];generalize LL (enc a)=as';simp[gcB,f183,LL]
abbrev aeV:Nat:=267
abbrev Ez:bK:=f267
theorem Pg {x s:Nat}(hx:x<4294967296)(hs:s<32):KW .u64 (x:Int) (s:Int)=((x*2 ^ s:Nat):Int):=by
 have hp:2 ^ s<=2147483648:=by
  have:=Qt0 (n:=2) ae (show s<=31 by omega);simpa using this
 have hxs:x*2 ^ s<=4294967295*2147483648:=Q72 ae hp;rw[Ah,<-bS];have h:(2:Int) ^ (min (Int.toNat (s:Int)) (IntKind.bits .u64))=((2 ^ s:Nat):Int):=by
  have:min (Int.toNat (s:Int)) (IntKind.bits .u64)=s:=by simp[IntKind.bits];omega
  rw[this];simp
 rw[h,<-Int.natCast_mul];exact wrap_u64 ae
theorem abC {r x s:Nat}(hr:r<2 ^ s)(hx:x<4294967296)(hs:s<32):Ba .u64 (r:Int) ((x*2 ^ s:Nat):Int)=((r+x*2 ^ s:Nat):Int):=by
 have hp:2 ^ s<=2147483648:=by
  have:=Qt0 (n:=2) ae (show s<=31 by omega);simpa using this
 have hxs:x*2 ^ s<=4294967295*2147483648:=Q72 ae hp;rw[xY,<-bS]
 change ai .u64 ((BitVec.ofInt 64 (r:Int) ||| BitVec.ofInt 64 ((x*2 ^ s:Nat):Int)).toNat:Int)=_
 have e:x*2 ^ s=x <<< s:=by rw[Nat.shiftLeft_eq]
 have l1:r<2 ^ 64:=ae;have l2:x <<< s<2 ^ 64:=by rw[<-e];omega
 rw[BitVec.ofInt_natCast,BitVec.ofInt_natCast,BitVec.toNat_or,BitVec.toNat_ofNat,BitVec.toNat_ofNat,e,Qv2 l1,Qv2 l2,Nat.or_comm,<-Xn0 hr,Xo2];refine wrap_u64 ?_;rw[<-e];omega
def leB:aF:=Ez.body.r.r.r.l.r.bl.lp
def X7 (a o:List Nat)(k z j r:Nat)(t:FV):St:=(st0 [.u,dI k,.u,.ls (.loc 0) j 1 0 (z+j),.d (.v (.int .u64 r)),.u,.d (LD a),dI a.length,dI j,t] [.row j 1 (LL o)])
theorem K4 (a o:List Nat)(k z s j r x:Nat)(hk:k=32*z+s)(hs:s<32)(hz:z<=100000000)(hx:a[j]?=some x)(hx32:x<4294967296)(la:a.length<=100000000)(ho:o.length=z+j)(hr:r<2 ^ s) :
  EX E0 60 leB (X7 a o k z j r .u)=some (.norm,X7 a (o++[(r+x*2 ^ s) % 4294967296]) k z (j+1) ((r+x*2 ^ s) / 4294967296) .u):=by
 have hj:=(bq hx)
 have hx':(LL a)[j]?=some (.v (.int .u32 (x:Int))):=by simp[LL,hx]
 have hx2:=idx hx';have hp:2 ^ s<=2147483648:=by
  have:=Qt0 (n:=2) ae (show s<=31 by omega);simpa using this
 have hxs:x*2 ^ s<=4294967295*2147483648:=Q72 ae hp;have w1:ai .u64 (x:Int)=(x:Int):=wrap_u64 ae;have w2:Int.tmod (k:Int) 32=(s:Int):=by rw[Q61 ae];omega
 have w3:=Pg hx32 hs;have w4:=abC hr hx32 hs;have hT:∃ T:Nat,T=r+x*2 ^ s:=⟨_,rfl⟩
 obtain⟨T,hT⟩:=hT;rw[<-hT]at w4 ⊢;have hTb:T<18446744073709551616:=ae;have hP:∃ P:Nat,P=x*2 ^ s:=⟨_,rfl⟩
 obtain⟨P,hP⟩:=hP;rw[<-hP]at w3 w4;have w5:ai .u32 (T:Int)=((T % 4294967296:Nat):Int):=by rw[dJ];omega
 have w6:Int.fdiv (T:Int) 4294967296=((T / 4294967296:Nat):Int):=by rw[Qm0 _ ae];omega
 have aR:ai .i64 ((j:Int)+1)=(j:Int)+1:=wrap_i64 ae;have hk1:((j+1:Nat):Int)=(j:Int)+1:=ae;have hj0:(0:Int)<=(j:Int):=ae;have hs0:¬ ((s:Int)<0):=ae;have hol:(LL o).length=z+j:=by simp[LL,ho]
 have htk:(LL o).take (z+j)=LL o:=Qe1 ae;have hm1:(z+j+1)*4<=most:=by simp[most];omega
 have hm2:z+j+1<=most:=by simp[most];omega
 have RN:LL (o++[T % 4294967296])=LL o++[.v (.int .u32 ((T % 4294967296:Nat):Int))]:=by simp[LL]
 clear hT hP hxs hp hTb;generalize T % 4294967296=lo,T / 4294967296=hi at*;unfold X7;rw[RN,hk1,<-Qu1];simp only[LD];generalize LL a=xs,LL o=es,z+j=m at*;simp[IntKind.bits,leB,f267,hj,hj0,hx',hx2,aR,hs0,w1,w2,w3,w4,w5,w6,hol,htk,hm1,hm2]
theorem left_step {V r Q x T W E:Nat}(h:V+r*Q=E*W)(hT:T=r+x):V+Q*(T % 4294967296)+T / 4294967296*(Q*4294967296)=E*W+Q*x:=by
 have h1:Q*(T % 4294967296)+T / 4294967296*(Q*4294967296)=Q*T:=by
  have:=Nat.mod_add_div T 4294967296;generalize T % 4294967296=a,T / 4294967296=b at*;subst this;grind
 have h2:Q*T=Q*r+Q*x:=by rw[hT,Xb0]
 have h3:Q*r=r*Q:=Ql1 _ _;omega
theorem Ph (m:Nat):val (List.replicate m 0)=0:=by
 induction m with
 | zero=>rfl
 | succ m ih=>rw[Xg0,val,ih]
theorem Pk (a:List Nat)(k z s:Nat)(hk:k=32*z+s)(hs:s<32)(hz:z<=100000000)(la:a.length<=100000000)(ha:bY a) :
  ∃ r,Ex E0 (.loop leB) (X7 a (List.replicate z 0) k z 0 0 .u) r/\∃ o q,bY o/\o.length=z+a.length/\q<2 ^ s /\
   val o+q*4294967296 ^ (z+a.length)=4294967296 ^ z*2 ^ s*val a/\r=(.exit 0,X7 a o k z a.length q (dB false)):=by
 refine Ex.inv (S:=fun t:List Nat × Nat × Nat=>X7 a t.1 k z t.2.1 t.2.2 .u) (fun t=>a.length-t.2.1)
  (fun t=>t.2.1<=a.length/\t.1.length=z+t.2.1/\t.2.2<2 ^ s/\bY t.1/\val t.1+t.2.2*4294967296 ^ (z+t.2.1)=4294967296 ^ z*2 ^ s*b_ a t.2.1) _ ?_ (List.replicate z 0,0,0) ?_
 ·rintro⟨o,j,r⟩ ⟨h1,h2,h3,h4,h5⟩;simp only at h1 h2 h3 h4 h5
  by_cases hj:j<a.length
  ·have hx:a[j]?=some (a[j]'hj):=Qa1 hj;have hx32:a[j]'hj<4294967296:=ha _ (Qi0 _);have hat:bE a j=a[j]'hj:=by simp[bE,hx]
   generalize a[j]'hj=x at hx hx32 hat;have hr:=K4 a o k z s j r x hk hs hz hx hx32 la h2 h3;refine .inl ⟨(o++[(r+x*2 ^ s) % 4294967296],j+1,(r+x*2 ^ s) / 4294967296),Ex.of hr,by simp only;omega,by simp only;omega,?_,?_,?_,?_⟩
   ·simp only[Qb0,Qg0,Qr1];omega
   ·simp only;rw[Qt1 ae];have h6:x*2 ^ s+2 ^ s<=4294967296*2 ^ s:=by rw[<-Nat.succ_mul];exact Qe0 _ hx32
    rw[Ql1 (2 ^ s) 4294967296];omega
   ·exact iF h4 (fun y hy=>by simp at hy;subst hy;exact Qu0 _ ae)
   ·simp only;rw[val_append,h2,eF,hat,<-Qu1,Qm1];have hv:val [(r+x*2 ^ s) % 4294967296]=(r+x*2 ^ s) % 4294967296:=by simp[val]
    rw[hv,left_step h5 rfl,Qx0];generalize 4294967296 ^ z=p;generalize 4294967296 ^ j=q;generalize 2 ^ s=t;grind
  ·have he:j=a.length:=ae;subst he;rw[fM (Qd1 _)]at h5;refine .inr ⟨_,Ex.of (n:=60) ?_,?_,o,r,h4,h2,h3,h5,rfl⟩
   ·unfold X7;simp[leB,f267]
   ·simp
 ·refine⟨aA,aA,Qq2 ae,?_,?_⟩
  ·intro x hx;have:=Xf1 hx;omega
  ·simp[Ph,b_,val]
theorem Aj (a:List Nat)(k:Nat)(hk:k<=3200000000)(la:a.length<=100000000)(ha:bY a) :
  Ca E0 aeV [.d (LD a),dI k] (.d (LD (enc (val a*2 ^ k))),none):=by
 obtain⟨z,s,hzs,hs⟩:∃ z s,k=32*z+s/\s<32:=⟨k / 32,k % 32,ae,ae⟩
 have hz:z<=100000000:=ae;obtain⟨r,hl,o,q,ho,hol,hq,hv,rfl⟩:=Pk a k z s hzs hs hz la ha;have hp:2 ^ s<=2147483648:=by
  have:=Qt0 (n:=2) ae (show s<=31 by omega);simpa using this
 have akn:q<4294967296:=ae;have hres:val (o++[q])=val a*2 ^ k:=by
  have e:2 ^ (32*z+s)=4294967296 ^ z*2 ^ s:=by rw[Qx0,X31]
  have hv2:val [q]=q:=by simp[val]
  rw[val_append,hol,hzs,e,hv2,Ql1 _ q,hv,Ql1]
 have hlim:bY (o++[q]):=iF ho (fun y hy=>by simp at hy;omega);obtain⟨n0,hc⟩:=(iE (o++[q]) (by simp;omega)).get;rw[df hlim,hres]at hc;have RN:LL (o++[q])=LL o++[.v (.int .u32 (q:Int))]:=by simp[LL]
 have hlo:(LL o).length=z+a.length:=by simp[LL,hol]
 have hla:(LL a).length=a.length:=by simp[LL]
 have htk:(LL o).take (z+a.length)=LL o:=Qe1 ae;have ahG:(LL o++[D.v (.int .u32 (q:Int))]).take (z+a.length+1)=LL o++[.v (.int .u32 (q:Int))]:=Qe1 (by simp;omega);have hz0:LL (List.replicate z 0)=List.replicate z (.v (.int .u32 0)):=by simp[LL]
 have w5:ai .u32 (q:Int)=(q:Int):=wrap_u32 ae;have hm1:(z+a.length+1)*4<=most:=by simp[most];omega
 have hm2:z+a.length+1<=most:=by simp[most];omega
 generalize enc (val a*2 ^ k)=res at*;refine Ca.body (o:=.ret) (st1:=(st0 (.u::.u::.d (LD res)::sO) ([.gK (a.length+1) 1 (LL (o++[q]))]))) rfl (aM 267 f267:E0.fn _=_) rfl ?_ (by intro id h;cases h) ?_
 ·show Ex E0 (.seq Ez.body.l (.seq Ez.body.r.l (.seq Ez.body.r.r.l (.seq (.seq Ez.body.r.r.r.l.l (.block 0 (.loop leB))) Ez.body.r.r.r.r)))) _ _;refine Ex.seq (st1:=(st0 (.d (LD a)::dI k::zZ) [])) (Ex.of (n:=40) ?_)
   (Ex.seq (st1:=(st0 (.d (LD a)::dI k::.u::.ls (.loc 0) 0 1 0 z::qO) [.row 0 1 (LL (List.replicate z 0))])) (Ex.of (n:=40) ?_)
   (Ex.seq (st1:=(st0 (.d (LD a)::dI k::.u::.ls (.loc 0) 0 1 0 z::.d (.v (.int .u64 0))::lI) [.row 0 1 (LL (List.replicate z 0))])) (Ex.of (n:=40) ?_)
   (Ex.seq (Ex.seq (Ex.of (n:=40) ?_) hl.block) (Ex.of (n:=n0+40) ?_))))
  ·simp[f267]
  ·have v1:Int.tdiv (k:Int) 32=(z:Int):=by rw[Q60 ae];omega
   have v2:ai .i64 (z:Int)=(z:Int):=wrap_i64 ae;have v3:ai .i64 ((z:Int)+(a.length:Int))=(z:Int)+(a.length:Int):=wrap_i64 ae;have v4:ai .i64 ((z:Int)+(a.length:Int)+1)=(z:Int)+(a.length:Int)+1:=wrap_i64 ae;have v5:(z:Int)<=(z:Int)+(a.length:Int)+1:=ae;have v6:((z:Int)+(a.length:Int)+1)*4<=1099511627776:=ae;have v7:(z:Int)+(a.length:Int)+1<=1099511627776:=ae;rw[hz0];clear hl;simp only[LD];generalize LL a=xs,a.length=m at*;simp[f267,hla,v1,v2,v3,v4,v5,v6,v7,most]
  ·simp[f267]
  ·unfold X7;simp[f267,LD,hla]
  ·unfold X7;rw[RN];simp only[LD]at hc ⊢;rw[RN]at hc;clear hl;generalize LL o=es,z+a.length=m at*;simp[ah.view,f267,hlo,htk,ahG,hm1,hm2,w5,hc]
 ·simp[f267,LD]
abbrev abD:Nat:=268
abbrev Be:bK:=f268
def riD (a:List Nat)(s i:Nat):Nat:=(bE a i+4294967296*bE a (i+1)) / 2 ^ s % 4294967296
theorem Ij {x y V s:Nat}(hs:s<32)(hx:x<4294967296) :
  (x+4294967296*(y+4294967296*V)) / 2 ^ s=(x+4294967296*y) / 2 ^ s % 4294967296+4294967296*((y+4294967296*V) / 2 ^ s):=by
 have hp:0<2 ^ s:=Qq2 ae;have hq:2 ^ s*2 ^ (32-s)=4294967296:=by rw[<-Qx0,show s+(32-s)=32 by omega]
 generalize 2 ^ s=p,2 ^ (32-s)=q at*;have h1:=Nat.mod_add_div ((x+4294967296*(y+4294967296*V)) / p) 4294967296;have h2:(x+4294967296*(y+4294967296*V)) / p / 4294967296=(y+4294967296*V) / p:=by
  rw[Qy2,Ql1 p,<-Qy2]
  congr 1
  omega
 have h3:(x+4294967296*(y+4294967296*V)) / p=(x+4294967296*y) / p+4294967296*(q*V):=by
  have e:x+4294967296*(y+4294967296*V)=(x+4294967296*y)+p*(4294967296*(q*V)):=by
   have:4294967296*(4294967296*V)=p*(4294967296*(q*V)):=by rw[<-hq];grind
   omega
  rw[e,X02 _ _ hp]
 have h4:(x+4294967296*(y+4294967296*V)) / p % 4294967296=(x+4294967296*y) / p % 4294967296:=by rw[h3,Nat.add_mul_mod_self_left]
 rw[h2,h4]at h1;exact h1.symm
def riB:aF:=Be.body.r.r.l.r.bl.lp
def SG (a o:List Nat)(k i j:Nat)(t:FV):St:=(st0 [.d (LD a),dI k,.u,dY j,dI i,t] (dZ j (LL o)))
theorem Pm (a o:List Nat)(k i j:Nat)(hi:¬ i<a.length):EX E0 60 riB (SG a o k i j .u)=some (.exit 0,SG a o k i j (dB false)):=by
 have hla:(LL a).length=a.length:=by simp[LL]
 unfold SG;simp only[LD];generalize LL a=xs,dY j=ov,dZ j (LL o)=oh at*;simp[riB,f268,hla,hi]
theorem Ik (a o:List Nat)(k z s i j:Nat)(hk:k=32*z+s)(hs:s<32)(hz:z<=100000000)(hi:i<a.length)(la:a.length<=100000000)(ha:bY a)(ho:o.length=j)(hj:j<=100000000) :
  EX E0 80 riB (SG a o k i j .u)=some (.norm,SG a (o++[riD a s i]) k (i+1) (j+1) .u):=by
 have hla:(LL a).length=a.length:=by simp[LL]
 have h1:=fun m=>jZ m a ae (i+1) ae ha
 have h2:=fun m=>jZ m a ae i ae ha
 have xa:=dm ha i;have xb:=dm ha (i+1);have hk1:((i+1:Nat):Int)=(i:Int)+1:=ae;have aR:ai .i64 ((i:Int)+1)=(i:Int)+1:=wrap_i64 ae;simp only[LD,hk1]at h1 h2;unfold riD;generalize bE a i=x,bE a (i+1)=y at*;have w1:=Sy xb;have w2:=A_ xb xa;obtain⟨P,hP⟩:∃ P:Nat,(P:Int)=(y:Int)*4294967296:=⟨y*4294967296,ae⟩
 obtain⟨T,hT⟩:∃ T:Nat,T=x+4294967296*y:=⟨_,rfl⟩
 have hT2:(y:Int)*4294967296+(x:Int)=(T:Int):=ae;rw[hT2,<-hP]at w2;rw[<-hP]at w1;rw[<-hT];have w3:Int.fdiv (T:Int) (2 ^ (min s 64))=((T / 2 ^ s:Nat):Int):=by
  rw[show min s 64=s by omega,Qm0 _ (Int.pow_nonneg ae),Xy2];simp
 have w4:Int.tmod (k:Int) 32=(s:Int):=by rw[Q61 ae];omega
 have hTq:T / 2 ^ s<18446744073709551616:=Xa1 (Xl1 _ _) ae;generalize T / 2 ^ s=Q at*;have w5:ai .u32 (Q:Int)=((Q % 4294967296:Nat):Int):=by rw[dJ];omega
 have hs0:¬ ((s:Int)<0):=ae;have RN:LL (o++[Q % 4294967296])=LL o++[.v (.int .u32 ((Q % 4294967296:Nat):Int))]:=by simp[LL]
 have hol:(LL o).length=j:=by simp[LL,ho]
 have hv1:dY (j+1)=.ls (.loc 0) j 1 0 (j+1):=by simp[dY]
 have D6:∀ l,dZ (j+1) l=[.row j 1 l]:=by intro l;simp[dZ]
 have hm1:(j+1)*4<=most:=by simp[most];omega
 have hm2:j+1<=most:=by simp[most];omega
 have htk:(LL o).take j=LL o:=Qe1 ae;clear hP hT hT2 hTq;unfold SG;rw[RN,hv1,D6,hk1];generalize Q % 4294967296=lo at*
 by_cases hj0:j=0
 ·have hv:dY j=.d (.n 1):=by simp[dY,hj0]
  have hh:∀ l,dZ j l=[]:=by intro l;simp[dZ,hj0]
  have hLo:LL o=[]:=Qo0 ae;have hvk:FV.ls (.loc 0) 0 1 0 1=FV.ls (.loc 0) j 1 0 (j+1):=by rw[hj0]
  have hhk:∀ l,ah.row 0 1 l=ah.row j 1 l:=by intro l;rw[hj0]
  rw[hv,hh,hLo,<-hvk,<-hhk];simp only[LD];generalize LL a=xs at*;simp[IntKind.bits,riB,f268,hla,hi,h1,h2,aR,hs0,w1,w2,w3,w4,w5,most]
 ·have hv:dY j=.ls (.loc 0) (j-1) 1 0 j:=by simp[dY,hj0]
  have hh:∀ l,dZ j l=[.row (j-1) 1 l]:=by intro l;simp[dZ,hj0]
  have hk2:j-1+1=j:=ae;rw[hv,hh];simp only[LD];generalize LL a=xs,LL o=es at*;simp[IntKind.bits,riB,f268,hla,hi,h1,h2,aR,hs0,w1,w2,w3,w4,w5,hm1,hm2,hol,htk,hk2]
theorem K5 (a:List Nat)(k z s:Nat)(hk:k=32*z+s)(hs:s<32)(hz:z<=100000000)(la:a.length<=100000000)(ha:bY a) :
  ∃ r,Ex E0 (.loop riB) (SG a [] k z 0 .u) r/\∃ o i,bY o/\o.length<=a.length/\val o=val (a.drop z) / 2 ^ s/\r=(.exit 0,SG a o k i o.length (dB false)):=by
 refine Ex.inv (S:=fun t:List Nat × Nat=>SG a t.1 k (z+t.2) t.2 .u) (fun t=>a.length-t.2)
  (fun t=>t.1.length=t.2/\(t.2=0\/z+t.2<=a.length)/\bY t.1/\val t.1+4294967296 ^ t.2*(val (a.drop (z+t.2)) / 2 ^ s)=val (a.drop z) / 2 ^ s) _ ?_ ([],0) ?_
 ·rintro⟨o,j⟩ ⟨h1,h2,h3,h4⟩;simp only at h1 h2 h3 h4
  by_cases hi:z+j<a.length
  ·have hr:=Ik a o k z s (z+j) j hk hs hz hi la ha h1 ae;refine .inl ⟨(o++[riD a s (z+j)],j+1),?_,by simp only;omega,?_,?_,?_,?_⟩
   ·simp only;rw[<-Qu1];exact Ex.of hr
   ·simp[h1]
   ·simp only;omega
   ·exact iF h3 (fun y hy=>by simp at hy;subst hy;exact Qu0 _ ae)
   ·simp only;rw[val_append,h1,<-h4,<-Qu1,jc a (z+j),jc a (z+j+1),Ij hs (dm ha _),Qm1];have hv:val [riD a s (z+j)]=riD a s (z+j):=by simp[val]
    rw[hv];unfold riD;rw[Xb0,Q52];omega
  ·rw[iG ae,Nat.zero_div,Nat.mul_zero,Q70]at h4;refine .inr ⟨_,Ex.of (Pm a o k (z+j) j hi),aA,o,z+j,h3,ae,h4,by rw[h1]⟩
 ·refine⟨rfl,.inl rfl,?_,by simp[val]⟩;intro x hx;cases hx
theorem Il:∀ (a:List Nat) (z:Nat),bY a->val (a.drop z)=val a / 4294967296 ^ z
 | a,0,_=>by simp
 | [],z+1,_=>by simp[val]
 | x::r,z+1,h=>by
  have hx:=h x (Qj0 ..);have e:(x+4294967296*val r) / (4294967296 ^ z*4294967296)=(x+4294967296*val r) / 4294967296 / 4294967296 ^ z:=by
   rw[Ql1 (4294967296 ^ z) 4294967296,Qy2]
  have e2:(x+4294967296*val r) / 4294967296=val r:=ae;rw[List.drop_succ_cons,Il r z (fun y hy=>h y (Qf1 _ hy)),val,Qm1,e,e2]
theorem SH (a:List Nat)(k:Nat)(hk:k<=3200000000)(la:a.length<=100000000)(ha:bY a) :
  Ca E0 abD [.d (LD a),dI k] (.d (LD (enc (val a / 2 ^ k))),none):=by
 obtain⟨z,s,hzs,hs⟩:∃ z s,k=32*z+s/\s<32:=⟨k / 32,k % 32,ae,ae⟩
 have hz:z<=100000000:=ae;obtain⟨r,hl,o,i,ho,hol,hv,rfl⟩:=K5 a k z s hzs hs hz la ha;have hres:val o=val a / 2 ^ k:=by
  rw[hv,Il a z ha,Qy2,hzs,Qx0,X31]
 obtain⟨n0,hc⟩:=(iE o ae).get;rw[df ho,hres]at hc;have hlo:(LL o).length=o.length:=by simp[LL]
 generalize enc (val a / 2 ^ k)=res at*;refine Ca.body (o:=.ret) (st1:=(st0 (.u::.u::.d (LD res)::u3K) (if o.length=0 then [] else [.gK (o.length-1) 1 (LL o)]))) rfl (aM 268 f268:E0.fn _=_) rfl ?_ (by intro id h;cases h) ?_
 ·show Ex E0 (.seq Be.body.l (.seq Be.body.r.l (.seq (.seq Be.body.r.r.l.l (.block 0 (.loop riB))) Be.body.r.r.r))) _ _;refine Ex.seq (st1:=(st0 (.d (LD a)::dI k::vR) [])) (Ex.of (n:=40) ?_)
   (Ex.seq (st1:=(st0 [.d (LD a),dI k,.u,.d (.n 1),.u,.u] [])) (Ex.of (n:=40) ?_)
   (Ex.seq (Ex.seq (Ex.of (n:=40) ?_) hl.block) (Ex.of (n:=n0+40) ?_)))
  ·simp[f268]
  ·simp[f268]
  ·have v1:Int.tdiv (k:Int) 32=(z:Int):=by rw[Q60 ae];omega
   have v2:ai .i64 (z:Int)=(z:Int):=wrap_i64 ae;unfold SG;simp[f268,v1,v2,dY,dZ]
  ·unfold SG;simp only[LD]at hc ⊢
   by_cases hk0:o.length=0
   ·have hLo:LL o=[]:=Qo0 ae;have hv1:dY o.length=.d (.n 1):=by simp[dY,hk0]
    have D6:∀ l,dZ o.length l=[]:=by intro l;simp[dZ,hk0]
    rw[if_pos hk0,hv1,D6];rw[hLo]at hc;clear hl;simp[f268,hc]
   ·have htk:(LL o).take o.length=LL o:=Qe1 ae;have hv1:dY o.length=.ls (.loc 0) (o.length-1) 1 0 o.length:=by simp[dY,hk0]
    have D6:∀ l,dZ o.length l=[.row (o.length-1) 1 l]:=by intro l;simp[dZ,hk0]
    rw[if_neg hk0,hv1,D6];clear hl;generalize LL o=es,o.length=m at*;simp[ah.view,f268,hlo,htk,hc]
 ·simp[f268,LD]
set_option maxRecDepth 100000
abbrev abF:Nat:=303
abbrev aeW:Nat:=287
abbrev ajJ:bK:=f287
abbrev X8:Nat:=266
abbrev ahi:bK:=f266
def gu (x:Nat):Nat:=if x=0 then 0 else Nat.log2 x+1
def oW:ByteArray:=⟨#[0,1,2,2,3,3,3,3,4,4,4,4,4,4,4,4,5,5,5,5,5,5,5,5,5,5,5,5,5,5,5,5,6,6,6,6,6,6,6,6,6,6,6,6,6,6,6,6,6,6,6,6,6,6,6,6,6,6,6,6,6,6,6,6,7,7,7,7,7,7,7,7,7,7,7,7,7,7,7,7,7,7,7,7,7,7,7,7,7,7,7,7,7,7,7,7,7,7,7,7,7,7,7,7,7,7,7,7,7,7,7,7,7,7,7,7,7,7,7,7,7,7,7,7,7,7,7,7,8,8,8,8,8,8,8,8,8,8,8,8,8,8,8,8,8,8,8,8,8,8,8,8,8,8,8,8,8,8,8,8,8,8,8,8,8,8,8,8,8,8,8,8,8,8,8,8,8,8,8,8,8,8,8,8,8,8,8,8,8,8,8,8,8,8,8,8,8,8,8,8,8,8,8,8,8,8,8,8,8,8,8,8,8,8,8,8,8,8,8,8,8,8,8,8,8,8,8,8,8,8,8,8,8,8,8,8,8,8,8,8,8,8,8,8,8,8,8,8,8,8,8,8,8,8,8,8]⟩
def Im (t:ByteArray):bK:={np:=1,nv:=4,ref:=false,res:=[.var 1],body:=(.seq (.region [⟨false,none,.Ak (.c (vI 0))⟩] [(1,0)] []) (.seq (.seq (.region [⟨false,none,.Ak (.var 0)⟩,⟨false,none,.bin .geq (.loc 0) (.c (.v (.int .u32 65536)))⟩] [(2,1)] []) (.cond (.var 2) (.seq (.seq (.region [⟨false,none,.Ak (.var 0)⟩,⟨false,none,.bin .shr (.loc 0) (.c (.v (.int .u64 16)))⟩,⟨false,none,.Ak (.loc 1)⟩] [(0,2)] []) (.kill [1,2])) (.region [⟨false,none,.Ak (.c (vI 16))⟩] [(1,0)] [])) .skip)) (.seq (.seq (.seq (.region [⟨false,none,.Ak (.var 0)⟩,⟨false,none,.bin .geq (.loc 0) (.c (.v (.int .u32 256)))⟩] [(3,1)] []) (.kill [2])) (.cond (.var 3) (.seq (.seq (.region [⟨false,none,.Ak (.var 0)⟩,⟨false,none,.bin .shr (.loc 0) (.c (.v (.int .u64 8)))⟩,⟨false,none,.Ak (.loc 1)⟩] [(0,2)] []) (.kill [3])) (.region [⟨false,none,.Ak (.var 1)⟩,⟨false,none,.bin .add (.loc 0) (.c (vI 8))⟩,⟨false,none,.Ak (.loc 1)⟩] [(1,2)] [])) .skip)) (.seq (.seq (.region [⟨false,none,.Ak (.var 1)⟩,⟨false,none,.Ak (.var 0)⟩,⟨false,none,.conv .u8 (.loc 1)⟩,⟨false,none,.uO (.c (.v (.string t))) (.loc 2)⟩,⟨false,none,.conv .i64 (.loc 3)⟩,⟨false,none,.bin .add (.loc 0) (.loc 4)⟩,⟨false,none,.Ak (.loc 5)⟩] [(1,6)] []) (.kill [0,3])) .ret))))}
theorem X9:f303=Im oW:=rfl
theorem X_:((List.range 256).all fun i=>match oW[i]? with|some b=>Nat.beq b.toNat (gu i)|none=>false)=true:=by kernel_rfl
theorem Ya {i:Nat}(h:i<256):∃ b:UInt8,oW[i]?=some b/\b.toNat=gu i:=by
 have:=abG X_ h;cases hb:oW[i]? with
 | none=>rw[hb]at this;cases this
 | some b=>rw[hb]at this;exact⟨b,rfl,Qg2 this⟩
theorem uP {x s:Nat}(h:2 ^ s<=x):gu x=gu (x / 2 ^ s)+s:=by
 have hp:0<2 ^ s:=Qq2 ae;have h1:0<x / 2 ^ s:=Xw1 h hp;unfold gu;rw[if_neg ae,if_neg ae];have h2:Nat.log2 x=Nat.log2 (x / 2 ^ s)+s:=by
  rw[Nat.log2_eq_iff ae];have a1:=Nat.log2_self_le (n:=x / 2 ^ s) ae;have a2:=Nat.lt_log2_self (n:=x / 2 ^ s);constructor
  ·rw[Qx0];exact Qc2 (Qe0 _ a1) (X21 x (2 ^ s))
  ·rw[show Nat.log2 (x / 2 ^ s)+s+1=(Nat.log2 (x / 2 ^ s)+1)+s by omega,Qx0];exact(Qt1 hp).1 a2
 omega
theorem Eu {E:Env}{st:St}{rec:Nat->List FV->List ah->bF}{env:List FV}{draw:Bool}{x i:Arg}:RK E rec draw st env (.uO x i)=runK E rec draw st env (.uO x i):=dh ..
theorem wrap_u8 {z:Int}(h:0<=z/\z<256):ai .u8 z=z:=by
 rw[bS];simp only[IntKind.wrap,IntKind.bits,IntKind.signed];simp;omega
theorem Al {x:Nat}(h:x<4294967296):gu x<=32:=by
 unfold gu;split
 ·omega
 ·have:=(Nat.log2_lt (n:=x) (k:=32) ae).2 ae;omega
theorem Pn (n x:Nat)(hx:x<4294967296):CL E0 (n+40) abF [.d (.v (.int .u32 x))] []=some (dI (gu x),none):=by
 rw[av rfl ((aM 303 f303:E0.fn _=_).trans (congrArg some X9)) rfl];have fin:∀ (y m:Nat),y<256->m<=24->gu x=gu y+m->∃ b:UInt8,oW[y]?=some b/\ai .u8 (y:Int)=(y:Int)/\ai .i64 ((b.toNat:Nat):Int)=((b.toNat:Nat):Int) /\
   ai .i64 ((m:Int)+((b.toNat:Nat):Int))=(gu x:Int):=by
  intro y m hy hm he;obtain⟨b,h1,h2⟩:=Ya hy;have hb:=b.toNat_lt;exact⟨b,h1,wrap_u8 ae,wrap_i64 ae,by rw[wrap_i64 ae];omega⟩
 by_cases hA:65536<=x
 ·have hA':(65536:Int)<=(x:Int):=ae;have w1:Int.fdiv (x:Int) 65536=((x / 65536:Nat):Int):=by rw[Qm0 _ ae];omega
  have e1:gu x=gu (x / 65536)+16:=uP (s:=16) ae;have hx1:x / 65536<65536:=ae;generalize x / 65536=x1 at*
  by_cases hB:256<=x1
  ·have hB':(256:Int)<=(x1:Int):=ae;have w2:Int.fdiv (x1:Int) 256=((x1 / 256:Nat):Int):=by rw[Qm0 _ ae];omega
   have e2:gu x1=gu (x1 / 256)+8:=uP (s:=8) ae;have hx2:x1 / 256<256:=ae;generalize x1 / 256=x2 at*;obtain⟨b,f1,f2,f3,f4⟩:=fin x2 24 hx2 ae ae;have w3:ai .i64 24=24:=wrap_i64 ae;have hp:(0:Int)<=(x2:Int):=ae;generalize oW=tb at*;simp[IntKind.bits,Im,hA',hB',w1,w2,w3,f1,f2,f3,hp];simpa using f4
  ·have hB':¬ (256:Int)<=(x1:Int):=ae;obtain⟨b,f1,f2,f3,f4⟩:=fin x1 16 ae ae ae;have hp:(0:Int)<=(x1:Int):=ae;generalize oW=tb at*;simp[IntKind.bits,Im,hA',hB',w1,f1,f2,f3,hp];simpa using f4
 ·have hA':¬ (65536:Int)<=(x:Int):=ae
  by_cases hB:256<=x
  ·have hB':(256:Int)<=(x:Int):=ae;have w2:Int.fdiv (x:Int) 256=((x / 256:Nat):Int):=by rw[Qm0 _ ae];omega
   have e2:gu x=gu (x / 256)+8:=uP (s:=8) ae;have hx2:x / 256<256:=ae;generalize x / 256=x2 at*;obtain⟨b,f1,f2,f3,f4⟩:=fin x2 8 hx2 ae ae;have w3:ai .i64 8=8:=wrap_i64 ae;have hp:(0:Int)<=(x2:Int):=ae;generalize oW=tb at*;simp[IntKind.bits,Im,hA',hB',w2,w3,f1,f2,f3,hp];simpa using f4
  ·have hB':¬ (256:Int)<=(x:Int):=ae;obtain⟨b,f1,f2,f3,f4⟩:=fin x 0 ae ae ae;have hp:(0:Int)<=(x:Int):=ae;generalize oW=tb at*;simp[Im,hA',hB',f1,f2,f3,hp];simpa[f3] using f4
theorem SI (n x:Nat)(hx:x<4294967296):CL E0 (n+80) aeW [.d (.v (.int .u32 x))] []=some (dI ((32-gu x:Nat):Int),none):=by
 have t:=fun m=>Pn m x hx
 have hb:=Al hx;have w:ai .i64 (32-(gu x:Int))=((32-gu x:Nat):Int):=by rw[wrap_i64 ae];omega
 rw[av rfl (aM 287 f287:E0.fn _=_) rfl];generalize gu x=bl at*;generalize 32-bl=r at*;simp[f287,t,w]
theorem K6 (n:Nat)(b:List Nat)(x:Nat)(hx:x<4294967296)(hl:b.length<=100000000) :
  CL E0 (n+120) X8 [.d (LD (b++[x]))] []=some (dI ((32*b.length+gu x:Nat):Int),none):=by
 have t:=fun m=>SI m x hx
 have hb:=Al hx;have hlen:(LL (b++[x])).length=b.length+1:=by simp[LL]
 have hget:(LL (b++[x]))[b.length]?=some (.v (.int .u32 (x:Int))):=by simp[LL]
 have hb0:(((b.length:Int)+1)==0)=false:=by simp;omega
 have w1:ai .i64 (b.length:Int)=(b.length:Int):=wrap_i64 ae;have w2:ai .i64 (32*((b.length:Int)+1))=32*((b.length:Int)+1):=wrap_i64 ae;have w3:ai .i64 (32*((b.length:Int)+1)-((32-gu x:Nat):Int))=((32*b.length+gu x:Nat):Int):=by rw[wrap_i64 ae];omega
 rw[av rfl (aM 266 f266:E0.fn _=_) rfl];generalize 32*b.length+gu x=res,32-gu x=r at*;simp only[LD];generalize LL (b++[x])=es at*;have AZ:=idx hget;generalize b.length=m at*;simp[f266,hlen,AZ,hb0,w1,w2,w3,t]
end Fi.S
