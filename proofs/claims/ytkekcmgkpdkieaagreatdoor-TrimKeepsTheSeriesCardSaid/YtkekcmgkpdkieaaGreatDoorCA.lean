import Derived.Test.YtkekcmgkpdkieaaGreatDoorSEnv
set_option linter.unusedVariables false
set_option linter.unusedSimpArgs false
noncomputable section
namespace Fi.S
open Go Fi
set_option maxHeartbeats 8000000
attribute [simp] st0 vI vB dI dB rL aH u3K rJ jP rM qi xh Jh qj Mw BZ Jm G9 agN Zq agO Zr ads Zt Zu adt Zv Ue QI Uf QJ adu Zw adv Zx adw adx Ug agP ady adz Zy Uh Ui Uj Uk Ul Um Un adA adB Zz ZA adC Uo agQ adD adE ZB Uq Ur Us Ut QK adF Uu ZC ZE adG ZF dC ZG FD QL mD runK B_ kI FV.target dH fT gD eO D.cells FV.cells FV.one D.one u_ St.push St.heap St.bB vD splice rX iK agR agS agT agU agV ajU agW agX agY agZ ag0 ag1 ag2 ag3 ag4 ag5 unV jF nD lq finish kG G_ gF leaves zg leave1 kD Uv Cb dX jI oneOf aL FV.rows FV.nZ D.norm D.dD scalar D.isV FV.shift FV.gG ai.shift lJ vE elems aG.l aG.r aG.bl aG.lp
abbrev nAt:Nat:=225
abbrev fAt:bM:=f225
abbrev adH:Nat:=231
abbrev Mx:bM:=f231
abbrev ZH:Nat:=180
abbrev ajw:bM:=f180
theorem kJ (n:Nat)(l:List Nat)(hl:l.length<=1000000000)(i:Nat)(hi:i<=1000000000)(hb:∀ x ∈ l,x<4294967296) :
  CL E0 (n+30) nAt [.d (LD l),dI i] []=some (.d (.v (.int .u64 (bI l i))),none):=by
 rw[aB rfl (aO 225 f225:E0.fn _=_) rfl]
 by_cases h:i<l.length
 ·have h1:((i:Int)<(l.length:Int)):=ae;have hx:l[i]?=some l[i]:=Qa1 h;have hw:ak .u64 (l[i]:Int)=(l[i]:Int):=wrap_u64 (by have:=hb l[i] (Qi2 h);omega);have ha:bI l i=l[i]:=by simp[bI,hx]
  simp[f225,LD,LL,h1,hx,hw,ha]
 ·have h1:¬ ((i:Int)<(l.length:Int)):=ae;have ha:bI l i=0:=by simp[bI,Qq0 (Nat.le_of_not_lt h)]
  simp[f225,LD,LL,h1,ha]
def Y6 (l:List Nat):St:=(st0 [.d (LD l),.u,.u] [])
def clR (l:List Nat):Out × St:=(.exit 0,(st0 [.d (LD (trim l)),.u,dB false] []))
def clB:aG:=match Mx.body with
 | .seq _ (.seq (.block _ (.loop b)) _)=>b
 | _=>.skip
theorem Ha (n:Nat):EX E0 (n+40) clB (Y6 [])=some (clR []):=by
 simp[clB,Y6,clR,f231,LD,LL,trim]
theorem Jn (n:Nat)(b:List Nat)(x:Nat)(hl:b.length<=1000000000) :
  EX E0 (n+40) clB (Y6 (b++[x]))=if x=0 then some (.norm,Y6 b) else some (clR (b++[x])):=by
 have hlen:(LL (b++[x])).length=b.length+1:=by simp[LL]
 have hget:(LL (b++[x]))[b.length]?=some (.v (.int .u32 (x:Int))):=by simp[LL]
 have htake:(LL (b++[x])).take b.length=LL b:=by simp[LL]
 have hpos:(0:Int)<(b.length:Int)+1:=ae;have hw:ak .i64 (b.length:Int)=(b.length:Int):=wrap_i64 ae
 by_cases h:x=0
 ·subst h;unfold Y6 LD;generalize LL (b++[0])=es at hlen hget htake;have Cc:=idx hget;have hh:((b.length:Int)<=(b.length:Int)+1):=ae;simp[clB,f231,hlen,hget,Cc,htake,hpos,hw,hh,kK,Hd]
 ·have hx:((x:Int)==0)=false:=by simpa using h
  rw[if_neg h];unfold clR;rw[uC b x h];unfold Y6 LD;generalize LL (b++[x])=es at hlen hget htake;have Cc:=idx hget;simp[clB,f231,hlen,hget,Cc,hpos,hw,hx]
theorem MB (l:List Nat)(hl:l.length<=1000000000):Ex E0 (.loop clB) (Y6 l) (clR l):=by
 have:=Ex.while (E:=E0) (b:=clB) (fun a:{l:List Nat // l.length<=1000000000}=>Y6 a.1) (fun a=>a.1.length) (fun a=>clR a.1) ?_ ⟨l,hl⟩
 ·exact this
 ·rintro⟨l,hl⟩;rcases Xc0 l with rfl|⟨b,x,rfl⟩
  ·exact .inr ⟨Ex.of (Ha 0),by intro h;cases h⟩
  ·have hb:b.length<=1000000000:=by simp at hl;omega
   have hr:=Jn 0 b x hb;rw[<-Q50]at hr
   by_cases h:x=0
   ·subst h;rw[if_pos rfl]at hr;refine .inl ⟨⟨b,hb⟩,Ex.of hr,aC,?_⟩;simp only[clR,Q50,uD]
   ·rw[if_neg h]at hr;exact .inr ⟨Ex.of hr,by intro h;cases h⟩
def clA:aG:=match Mx.body with
 | .seq a _=>a
 | _=>.skip
def clC:aG:=match Mx.body with
 | .seq _ (.seq _ c)=>c
 | _=>.skip
theorem iP (l:List Nat)(hl:l.length<=1000000000):Ca E0 adH [.d (LD l)] (.d (LD (trim l)),none):=by
 refine Ca.body (o:=.ret) (st1:=(st0 [.u,.d (LD (trim l)),.u] [])) rfl (k231:E0.fn _=_) rfl ?_ (by intro id h;cases h) ?_
 ·show Ex E0 (.seq clA (.seq (.block 0 (.loop clB)) clC)) _ _;refine Ex.seq (st1:=Y6 l) (Ex.of (n:=40) ?_) (Ex.seq ((MB l hl).block) (Ex.of (n:=40) ?_))
  ·simp[clA,Y6,f231]
  ·simp[clC,f231]
 ·simp[f231,LD]
abbrev adJ:Nat:=181
abbrev ZI:bM:=f181
def He (a b:List Nat):Nat->Int
 | 0=>0
 | k+1=>if bI a k=bI b k then He a b k else if bI a k<bI b k then -1 else 1
def cmS (a b:List Nat)(i:Int):St:=(st0 (.d (LD a)::.d (LD b)::.u::dI i::rJ) [])
def Uw (a b:List Nat):Nat->Out × St
 | 0=>(.exit 0,(st0 [.d (LD a),.d (LD b),.u,.d (.v (.int .i64 (-1))),.u,.u,.d (.v (.bool false)),.u] []))
 | k+1=>if bI a k=bI b k then Uw a b k else(.ret,(st0 [.u,.u,.d (.v (.int .i64 (if bI a k<bI b k then -1 else 1))),.u,.u,.u,.u,.u] []))
def ZJ:aG:=match ZI.body with
 | .seq _ (.seq (.seq _ (.block _ (.loop b))) _)=>b
 | _=>.skip
def cmA:aG:=match ZI.body with
 | .seq a _=>a
 | _=>.skip
def ZK:aG:=match ZI.body with
 | .seq _ (.seq (.seq a (.block _ (.loop _))) _)=>a
 | _=>.skip
def cmC:aG:=match ZI.body with
 | .seq _ (.seq (.seq _ (.block _ (.loop _))) c)=>c
 | _=>.skip
theorem dx {l:List Nat}(h:cu l)(i:Nat):bI l i<4294967296:=by
 unfold bI;cases hx:l[i]? with
 | none=>simp
 | some x=>exact h x (Qa2 hx)
theorem MC (n:Nat)(a b:List Nat):EX E0 (n+60) ZJ (cmS a b (-1))=some (Uw a b 0):=by
 simp[ZJ,cmS,Uw,f181]
theorem QM (n:Nat)(a b:List Nat)(k:Nat)(hk:k<=1000000000)(la:a.length<=1000000000)(lb:b.length<=1000000000)(ha:cu a)(hb:cu b) :
  EX E0 (n+60) ZJ (cmS a b k)=if bI a k=bI b k then some (.norm,cmS a b ((k:Int)-1)) else some (Uw a b (k+1)):=by
 have h1:=fun m=>kJ m a la k hk ha
 have h2:=fun m=>kJ m b lb k hk hb
 have xa:=dx ha k;have xb:=dx hb k;have hdec:ak .i64 ((k:Int)-1)=(k:Int)-1:=wrap_i64 ae;have hk0:(0:Int)<=(k:Int):=ae;unfold Uw cmS;simp only[LD]at h1 h2 ⊢;generalize bI a k=x,bI b k=y at*
 by_cases hxy:x=y
 ·subst hxy;simp[ZJ,f181,h1,h2,hdec,hk0]
 ·have hne:((x:Int) != (y:Int))=true:=by simp;omega
  rw[if_neg hxy,if_neg hxy]
  by_cases hlt:x<y
  ·have hs:ak .u64 ((x:Int)-(y:Int))=18446744073709551616+(x:Int)-(y:Int):=by rw[gH];omega
   have hd:Int.fdiv (18446744073709551616+(x:Int)-(y:Int)) 9223372036854775808=1:=by rw[Qn0 _ ae];omega
   have w1:ak .i64 1=1:=wrap_i64 ae;have w2:ak .i64 2=2:=wrap_i64 ae;have w3:ak .i64 (-1)=-1:=wrap_i64 ae;simp[IntKind.bits,ZJ,f181,h1,h2,hk0,hne,hs,hd,hlt,w1,w2,w3]
  ·have hs:ak .u64 ((x:Int)-(y:Int))=(x:Int)-(y:Int):=wrap_u64 ae;have hd:Int.fdiv ((x:Int)-(y:Int)) 9223372036854775808=0:=by rw[Qn0 _ ae];omega
   have w1:ak .i64 1=1:=wrap_i64 ae;have w0:ak .i64 0=0:=wrap_i64 ae;simp[IntKind.bits,ZJ,f181,h1,h2,hk0,hne,hs,hd,hlt,w1,w0]
theorem zh (a b:List Nat):∀ k,(Uw a b k=(.exit 0,(st0 [.d (LD a),.d (LD b),.u,dI (-1),.u,.u,dB false,.u] []))/\He a b k=0) \/
  Uw a b k=(.ret,(st0 (.u::.u::dI (He a b k)::jP) []))
 | 0=>.inl ⟨rfl,rfl⟩
 | k+1=>by
  unfold Uw He
  by_cases h:bI a k=bI b k
  ·rw[if_pos h,if_pos h];exact zh a b k
  ·rw[if_neg h,if_neg h];exact .inr rfl
theorem adK (a b:List Nat)(k:Nat):(Uw a b k).1≠.norm:=by
 rcases zh a b k with ⟨h,_⟩|h<;>rw[h]<;>intro h<;>cases h
theorem Jo (a b:List Nat)(la:a.length<=1000000000)(lb:b.length<=1000000000)(ha:cu a)(hb:cu b):∀ (k:Nat),k<=1000000001->Ex E0 (.loop ZJ) (cmS a b ((k:Int)-1)) (Uw a b k)
 | 0,_=>Ex.out (Ex.of (n:=60) (MC 0 a b)) (by intro h;cases h)
 | k+1,hk=>by
  have hr:=QM 0 a b k ae la lb ha hb;rw[show(((k+1:Nat):Int)-1)=(k:Int) by omega]
  by_cases h:bI a k=bI b k
  ·rw[if_pos h]at hr;have:=Jo a b la lb ha hb k ae;unfold Uw;rw[if_pos h];exact Ex.next (Ex.of hr) this
  ·rw[if_neg h]at hr;exact Ex.leave (Ex.of hr) (adK a b (k+1))
theorem ZL (a b:List Nat)(la:a.length<=1000000000)(lb:b.length<=1000000000)(ha:cu a)(hb:cu b) :
  Ca E0 adJ [.d (LD a),.d (LD b)] (dI (He a b (max a.length b.length)),none):=by
 have hl:=Jo a b la lb ha hb (max a.length b.length) ae;have hA:Ex E0 cmA (st0 (.d (LD a)::.d (LD b)::rM) []) (.norm,(st0 (.d (LD a)::.d (LD b)::rM) [])) :=
  Ex.of (n:=40) (by simp[cmA,f181])
 have hmax:(if a.length<b.length then(b.length:Int) else(a.length:Int))=((max a.length b.length:Nat):Int):=by split<;>omega
 have hw:ak .i64 (((max a.length b.length:Nat):Int)-1)=((max a.length b.length:Nat):Int)-1:=wrap_i64 ae;have vU:(LL a).length=a.length:=by simp[LL]
 have EU:(LL b).length=b.length:=by simp[LL]
 have hA2:Ex E0 ZK (st0 (.d (LD a)::.d (LD b)::rM) []) (.norm,cmS a b (((max a.length b.length:Nat):Int)-1)):=by
  refine Ex.of (n:=40) ?_;unfold cmS LD;generalize max a.length b.length=mm at*;simp[ZK,f181,vU,EU,hmax,hw]
 rcases zh a b (max a.length b.length) with ⟨h,h0⟩|h
 ·rw[h]at hl;rw[h0];refine Ca.body (o:=.ret) (st1:=(st0 (.u::.u::dI 0::jP) [])) rfl (k181:E0.fn _=_) rfl ?_ (by intro id h;cases h) ?_
  ·show Ex E0 (.seq cmA (.seq (.seq ZK (.block 0 (.loop ZJ))) cmC)) _ _;refine hA.seq ((hA2.seq hl.block).seq (Ex.of (n:=40) ?_));simp[cmC,f181]
  ·simp[f181]
 ·rw[h]at hl;refine Ca.body (o:=.ret) (st1:=(st0 (.u::.u::dI (He a b (max a.length b.length))::jP) [])) rfl (k181:E0.fn _=_) rfl ?_ (by intro id h;cases h) ?_
  ·show Ex E0 (.seq cmA (.seq (.seq ZK (.block 0 (.loop ZJ))) cmC)) _ _;refine hA.seq (Ex.dE (hA2.seq hl.b_))
  ·simp[f181]
def d9 (x y:Nat):Int:=if x<y then -1 else if x=y then 0 else 1
theorem Jp {a b:List Nat}(ha:cu a)(hb:cu b):∀ k,He a b k=d9 (cK a k) (cK b k)
 | 0=>by simp[He,d9,cK,val]
 | k+1=>by
  rw[He,Jp ha hb k,eP,eP];have h1:=o7 ha k;have h2:=o7 hb k;unfold d9
  by_cases h:bI a k=bI b k
  ·rw[if_pos h,h];generalize 4294967296 ^ k*bI b k=p
   by_cases h3:cK a k<cK b k
   ·rw[if_pos h3,if_pos ae]
   ·by_cases h4:cK a k=cK b k
    ·rw[if_neg h3,if_pos h4,if_neg ae,if_pos ae]
    ·rw[if_neg h3,if_neg h4,if_neg ae,if_neg ae]
  ·rw[if_neg h]
   by_cases h3:bI a k<bI b k
   ·have:=jW (vb:=cK b k) h1 h3;rw[if_pos h3];generalize 4294967296 ^ k*bI a k=p,4294967296 ^ k*bI b k=q at*;rw[if_pos this]
   ·have:=jW (vb:=cK a k) h2 (show bI b k<bI a k by omega);rw[if_neg h3];generalize 4294967296 ^ k*bI a k=p,4294967296 ^ k*bI b k=q at*;rw[if_neg ae,if_neg ae]
theorem zi (a b:List Nat)(la:a.length<=1000000000)(lb:b.length<=1000000000)(ha:cu a)(hb:cu b) :
  Ca E0 adJ [.d (LD a),.d (LD b)] (dI (d9 (val a) (val b)),none):=by
 have h:=ZL a b la lb ha hb;rw[Jp ha hb,fU ae,fU ae]at h;exact h
abbrev acG:Nat:=228
abbrev FE:bM:=f228
def ZM:aG:=match FE.body with
 | .seq _ (.seq _ (.seq _ (.seq (.seq _ (.block _ (.loop b))) _)))=>b
 | _=>.skip
def ag6:aG:=match FE.body with
 | .seq a _=>a
 | _=>.skip
def ag7:aG:=match FE.body with
 | .seq _ (.seq a _)=>a
 | _=>.skip
def ag8:aG:=match FE.body with
 | .seq _ (.seq _ (.seq a _))=>a
 | _=>.skip
def ag9:aG:=match FE.body with
 | .seq _ (.seq _ (.seq _ (.seq (.seq a (.block _ (.loop _))) _)))=>a
 | _=>.skip
def plC:aG:=match FE.body with
 | .seq _ (.seq _ (.seq _ (.seq (.seq _ (.block _ (.loop _))) c)))=>c
 | _=>.skip
def eB (k:Nat):FV:=if k=0 then .d (.n 1) else .ls (.loc 0) (k-1) 1 0 k
def eD (k:Nat)(o:List D):List ai:=if k=0 then [] else [.row (k-1) 1 o]
def Y7 (a b o:List Nat)(k s:Nat)(t:FV):St:=(st0 [.d (LD a),.d (LD b),.u,eB k,.d (.v (.int .u64 s)),dI k,t] (eD k (LL o)))
theorem ME (n:Nat)(a b o:List Nat)(k s:Nat)(hk:k<=1000000000)(la:a.length<=1000000000)(lb:b.length<=1000000000)(ha:cu a)(hb:cu b)(ho:o.length=k)(hs:s<4294967296) :
  EX E0 (n+60) ZM (Y7 a b o k s .u)=if k<max a.length b.length\/0<s then some (.norm,Y7 a b (o++[(s+(bI a k+bI b k)) % 4294967296]) (k+1) ((s+(bI a k+bI b k)) / 4294967296) .u)
   else some (.exit 0,Y7 a b o k s (dB false)):=by
 have h1:=fun m=>kJ m a la k hk ha
 have h2:=fun m=>kJ m b lb k hk hb
 have xa:=dx ha k;have xb:=dx hb k;have vU:(LL a).length=a.length:=by simp[LL]
 have EU:(LL b).length=b.length:=by simp[LL]
 have hmax:(if a.length<b.length then(b.length:Int) else(a.length:Int))=((max a.length b.length:Nat):Int):=by split<;>omega
 simp only[LD]at h1 h2;have aS:ak .i64 ((k:Int)+1)=(k:Int)+1:=wrap_i64 ae;generalize bI a k=x,bI b k=y at*;have w1:ak .u64 ((x:Int)+(y:Int))=(x:Int)+(y:Int):=wrap_u64 ae;have w2:ak .u64 ((s:Int)+((x:Int)+(y:Int)))=(s:Int)+((x:Int)+(y:Int)):=wrap_u64 ae;have w3:ak .u32 ((s:Int)+((x:Int)+(y:Int)))=((s:Int)+((x:Int)+(y:Int))) % 4294967296:=dQ _;have w4:Int.fdiv ((s:Int)+((x:Int)+(y:Int))) 4294967296=((s:Int)+((x:Int)+(y:Int))) / 4294967296:=Qn0 _ ae;have TR:LL (o++[(s+(x+y)) % 4294967296])=LL o++[.v (.int .u32 (((s:Int)+((x:Int)+(y:Int))) % 4294967296))]:=by simp[LL]
 have hol:(LL o).length=k:=by simp[LL,ho]
 have hv1:eB (k+1)=.ls (.loc 0) k 1 0 (k+1):=by simp[eB]
 have EY:∀ l,eD (k+1) l=[.row k 1 l]:=by intro l;simp[eD]
 have hm1:(k+1)*4<=most:=by simp[most];omega
 have hm2:k+1<=most:=by simp[most];omega
 have htk:(LL o).take k=LL o:=Qe0 ae;have hk1:((k+1:Nat):Int)=(k:Int)+1:=ae;have hs1:(((s+(x+y)) / 4294967296:Nat):Int)=((s:Int)+((x:Int)+(y:Int))) / 4294967296:=ae;unfold Y7;rw[TR,hv1,EY,hk1,hs1]
 by_cases hk0:k=0
 ·have hv:eB k=.d (.n 1):=by simp[eB,hk0]
  have hh:∀ l,eD k l=[]:=by intro l;simp[eD,hk0]
  have ho0:o=[]:=Qo2 ae;have hLo:LL o=[]:=by rw[ho0];rfl
  have hm3:1*4<=most:=by simp[most]
  have hm4:1<=most:=by simp[most]
  have hvk:FV.ls (.loc 0) 0 1 0 1=FV.ls (.loc 0) k 1 0 (k+1):=by rw[hk0]
  have hhk:∀ l,ai.row 0 1 l=ai.row k 1 l:=by intro l;rw[hk0]
  rw[hv,hh,hLo,<-hvk,<-hhk];generalize max a.length b.length=mm at*
  by_cases hc:k<mm
  ·rw[if_pos (.inl hc)];simp[IntKind.bits,ZM,f228,LD,vU,EU,hmax,hc,h1,h2,aS,w1,w2,w3,w4,hm4,most]
  ·by_cases hs0:0<s
   ·rw[if_pos (.inr hs0)];simp[IntKind.bits,ZM,f228,LD,vU,EU,hmax,hc,hs0,h1,h2,aS,w1,w2,w3,w4,hm4,most]
   ·rw[if_neg ae];simp[IntKind.bits,ZM,f228,LD,vU,EU,hmax,hc,hs0]
 ·have hv:eB k=.ls (.loc 0) (k-1) 1 0 k:=by simp[eB,hk0]
  have hh:∀ l,eD k l=[.row (k-1) 1 l]:=by intro l;simp[eD,hk0]
  have hk2:k-1+1=k:=ae;rw[hv,hh];generalize max a.length b.length=mm at*
  by_cases hc:k<mm
  ·rw[if_pos (.inl hc)];simp[IntKind.bits,ZM,f228,LD,vU,EU,hmax,hc,h1,h2,aS,w1,w2,w3,w4,hm1,hm2,hol,htk,hk2]
  ·by_cases hs0:0<s
   ·rw[if_pos (.inr hs0)];simp[IntKind.bits,ZM,f228,LD,vU,EU,hmax,hc,hs0,h1,h2,aS,w1,w2,w3,w4,hm1,hm2,hol,htk,hk2]
   ·rw[if_neg ae];simp[IntKind.bits,ZM,f228,LD,vU,EU,hmax,hc,hs0]
def plI (a b:List Nat)(t:List Nat × Nat × Nat):Prop :=
 t.1.length=t.2.1/\t.2.1<=max a.length b.length+1/\(t.2.1=max a.length b.length+1->t.2.2=0)/\t.2.2<4294967296/\cu t.1 /\
 val t.1+4294967296 ^ t.2.1*(t.2.2+val (a.drop t.2.1)+val (b.drop t.2.1))=val a+val b
theorem FH {P s x y va vb vo d c:Nat}(h:s+(x+y)=d+4294967296*c) :
  vo+P*d+P*4294967296*(c+va+vb)=vo+P*(s+(x+4294967296*va)+(y+4294967296*vb)):=by grind
theorem QN (a b:List Nat)(la:a.length<=100000000)(lb:b.length<=100000000)(ha:cu a)(hb:cu b) :
  ∃ r,Ex E0 (.loop ZM) (Y7 a b [] 0 0 .u) r/\∃ o,cu o/\val o=val a+val b/\o.length<=max a.length b.length+1/\r=(.exit 0,Y7 a b o o.length 0 (dB false)):=by
 refine Ex.inv (S:=fun t:List Nat × Nat × Nat=>Y7 a b t.1 t.2.1 t.2.2 .u) (fun t=>max a.length b.length+2-t.2.1) (plI a b) _ ?_ ([],0,0) ?_
 ·rintro⟨o,k,s⟩ ⟨h1,h2,h3,h4,h5,h6⟩;simp only at h1 h2 h3 h4 h5 h6;have hr:=ME 0 a b o k s ae ae ae ha hb h1 h4;have xa:=dx ha k;have xb:=dx hb k
  by_cases hc:k<max a.length b.length\/0<s
  ·rw[if_pos hc]at hr;have hk:k<max a.length b.length+1:=by
    rcases hc with hc|hc
    ·omega
    ·rcases Qg0 k (max a.length b.length+1) with h|h
     ·exact h
     ·have:=h3 ae;omega
   refine .inl ⟨(o++[(s+(bI a k+bI b k)) % 4294967296],k+1,(s+(bI a k+bI b k)) / 4294967296),Ex.of hr,by simp only;omega,?_,?_,?_,?_,?_,?_⟩
   ·simp[h1]
   ·simp only;omega
   ·intro he;simp only at he ⊢;have e1:bI a k=0:=by unfold bI;rw[Qq0 ae];rfl
    have e2:bI b k=0:=by unfold bI;rw[Qq0 ae];rfl
    rw[e1,e2];omega
   ·simp only;omega
   ·exact iQ h5 (fun x hx=>by simp at hx;subst hx;exact Qw0 _ ae)
   ·simp only;rw[val_append,h1,Qn2,<-h6,jr a k,jr b k];have hv:val [(s+(bI a k+bI b k)) % 4294967296]=(s+(bI a k+bI b k)) % 4294967296:=by simp[val]
    rw[hv];exact FH ae
  ·rw[if_neg hc]at hr;refine .inr ⟨_,Ex.of hr,aC,o,h5,?_,ae,?_⟩
   ·rw[iT ae,iT ae]at h6;have:s=0:=ae;subst this;simpa using h6
   ·have:s=0:=ae;subst this;rw[h1]
 ·refine⟨rfl,aC,?_,aC,?_,?_⟩
  ·simp
  ·intro x hx;cases hx
  ·simp[val]
theorem ZN (a b:List Nat)(la:a.length<=100000000)(lb:b.length<=100000000)(ha:cu a)(hb:cu b) :
  Ca E0 acG [.d (LD a),.d (LD b)] (.d (LD (enc (val a+val b))),none):=by
 obtain⟨r,hl,o,ho,hv,hol,rfl⟩:=QN a b la lb ha hb;obtain⟨n0,hc⟩:=(iP o ae).get;rw[dm ho,hv]at hc;have hlo:(LL o).length=o.length:=by simp[LL]
 generalize enc (val a+val b)=res at*;refine Ca.body (o:=.ret) (st1:=(st0 (.u::.u::.d (LD res)::rJ) (if o.length=0 then [] else [.iA (o.length-1) 1 (LL o)]))) rfl (aO 228 f228:E0.fn _=_) rfl ?_ (by intro id h;cases h) ?_
 ·show Ex E0 (.seq ag6 (.seq ag7 (.seq ag8 (.seq (.seq ag9 (.block 0 (.loop ZM))) plC)))) _ _;refine Ex.seq (st1:=(st0 (.d (LD a)::.d (LD b)::jP) [])) (Ex.of (n:=40) ?_)
   (Ex.seq (st1:=(st0 [.d (LD a),.d (LD b),.u,.d (.n 1),.u,.u,.u] [])) (Ex.of (n:=40) ?_)
   (Ex.seq (st1:=(st0 [.d (LD a),.d (LD b),.u,.d (.n 1),.d (.v (.int .u64 0)),.u,.u] [])) (Ex.of (n:=40) ?_)
   (Ex.seq (Ex.seq (st1:=Y7 a b [] 0 0 .u) (Ex.of (n:=40) ?_) hl.block) (Ex.of (n:=n0+40) ?_))))
  ·simp[ag6,f228]
  ·simp[ag7,f228]
  ·simp[ag8,f228]
  ·simp[ag9,Y7,eB,eD,f228]
  ·unfold Y7;simp only[LD]at hc ⊢
   by_cases hk0:o.length=0
   ·have hLo:LL o=[]:=Qo2 ae;have hv1:eB o.length=.d (.n 1):=by simp[eB,hk0]
    have EY:∀ l,eD o.length l=[]:=by intro l;simp[eD,hk0]
    rw[if_pos hk0,hv1,EY];rw[hLo]at hc;clear hl;simp[plC,f228,hc]
   ·have htk:(LL o).take o.length=LL o:=Qe0 ae;have hv1:eB o.length=.ls (.loc 0) (o.length-1) 1 0 o.length:=by simp[eB,hk0]
    have EY:∀ l,eD o.length l=[.row (o.length-1) 1 l]:=by intro l;simp[eD,hk0]
    rw[if_neg hk0,hv1,EY];clear hl;generalize LL o=es,o.length=k at*;simp[ai.view,plC,f228,hlo,htk,hc]
 ·simp[f228,LD]
abbrev Ux:Nat:=229
abbrev zk:bM:=f229
def miB:aG:=zk.body.r.r.r.l.r.bl.lp
def Uy (a b:List Nat)(es:List D)(n k s:Nat)(t:FV):St:=(st0 [.d (LD a),.d (LD b),.u,.ls (.loc 0) 0 1 0 n,.d (.v (.int .u64 s)),.u,.u,dI n,dI k,t] [.row 0 1 es])
theorem QO (n:Nat)(a b:List Nat)(es:List D)(k s:Nat):EX E0 (n+60) miB (Uy a b es k k s .u)=some (.exit 0,Uy a b es k k s (dB false)):=by
 unfold Uy;simp[miB,f229]
theorem Jq (n:Nat)(a b:List Nat)(es:List D)(l k s s' d:Nat)(hk:k<l)(hl:l<=1000000000)(la:a.length<=1000000000)(lb:b.length<=1000000000)(ha:cu a)(hb:cu b)(hs:s<=1)(he:es.length=l)
  (hz:es[k]?=some (.v (.int .u32 0))) (hd:d<4294967296) (hs':s'<=1) (hdig:bI a k+4294967296*s'=d+bI b k+s) :
  EX E0 (n+60) miB (Uy a b es l k s .u)=some (.norm,Uy a b (es.set k (.v (.int .u32 (d:Int)))) l (k+1) s' .u):=by
 have h1:=fun m=>kJ m a la k ae ha
 have h2:=fun m=>kJ m b lb k ae hb
 have xa:=dx ha k;have xb:=dx hb k;simp only[LD]at h1 h2;have aS:ak .i64 ((k:Int)+1)=(k:Int)+1:=wrap_i64 ae;generalize bI a k=x,bI b k=y at*;have hk':(k:Int)<(l:Int):=ae;have hk1:((k+1:Nat):Int)=(k:Int)+1:=ae;have w1:ak .u64 (ak .u64 ((x:Int)-(y:Int))-(s:Int))=((x:Int)-(y:Int)-(s:Int)) % 18446744073709551616:=by rw[gH,gH];omega
 have w3:ak .u32 (((x:Int)-(y:Int)-(s:Int)) % 18446744073709551616)=(d:Int):=by rw[dQ];omega
 have w4:Int.fdiv (((x:Int)-(y:Int)-(s:Int)) % 18446744073709551616) 9223372036854775808=(s':Int):=by rw[Qn0 _ ae];omega
 have hz2:=idx hz;unfold Uy;rw[hk1];simp[IntKind.bits,miB,f229,LD,hk',h1,h2,aS,w1,w3,w4,hz,hz2]
def miI (a b:List Nat)(t:List Nat × Nat):Prop :=
 t.1.length<=a.length/\t.2<=1/\cu t.1/\cK a t.1.length+4294967296 ^ t.1.length*t.2=val t.1+cK b t.1.length
theorem Ce {P x y va vb vo s d s':Nat}(h:va+P*s=vo+vb)(hd:x+4294967296*s'=d+y+s):va+P*x+P*4294967296*s'=vo+P*d+(vb+P*y):=by
 have:P*x+P*4294967296*s'=P*d+P*y+P*s:=by
  rw[Q81,<-Xe2,<-Xe2,<-Xe2,hd]
 omega
theorem MF (a b:List Nat)(la:a.length<=1000000000)(lb:b.length<=a.length)(ha:cu a)(hb:cu b)(hab:val b<=val a) :
  ∃ r,Ex E0 (.loop miB) (Uy a b (LL (row0 [] a.length)) a.length 0 0 .u) r/\∃ o,cu o/\val o=val a-val b/\o.length=a.length/\r=(.exit 0,Uy a b (LL o) a.length a.length 0 (dB false)):=by
 refine Ex.inv (S:=fun t:List Nat × Nat=>Uy a b (LL (row0 t.1 (a.length-t.1.length))) a.length t.1.length t.2 .u) (fun t=>a.length-t.1.length) (miI a b) _ ?_ ([],0) ?_
 ·rintro⟨o,s⟩ ⟨h1,h2,h3,h4⟩;simp only at h1 h2 h3 h4;have xa:=dx ha o.length;have xb:=dx hb o.length
  by_cases hk:o.length<a.length
  ·obtain⟨m,hm⟩:∃ m,a.length-o.length=m+1:=⟨a.length-o.length-1,ae⟩
   obtain⟨d,s',hd,hs',hdig⟩:∃ d s',d<4294967296/\s'<=1/\bI a o.length+4294967296*s'=d+bI b o.length+s:=by
    by_cases hc:bI b o.length+s<=bI a o.length
    ·exact⟨bI a o.length-(bI b o.length+s),0,ae,ae,ae⟩
    ·exact⟨bI a o.length+4294967296-(bI b o.length+s),1,ae,ae,ae⟩
   have hr:=Jq 0 a b (LL (row0 o (m+1))) a.length o.length s s' d hk la la ae ha hb h2 (by rw[rY];omega) (O9 o m) hd hs' hdig;rw[Jr]at hr;refine .inl ⟨(o++[d],s'),?_,?_,?_,?_,?_,?_⟩
   ·simp only[hm,Qb0,Qf1,Qs1];rw[show a.length-(o.length+(0+1))=m by omega];exact Ex.of hr
   ·simp only[Qb0,Qf1,Qs1];omega
   ·simp only[Qb0,Qf1,Qs1];omega
   ·exact hs'
   ·exact iQ h3 (fun x hx=>by simp at hx;subst hx;exact hd)
   ·simp only[Qb0,Qf1,Qs1,Qy1];rw[eP,eP,val_append,Qn2];have hv:val [d]=d:=by simp[val]
    rw[hv];exact Ce h4 hdig
  ·have he:o.length=a.length:=ae;rw[he,fU (Qe1 _),fU lb]at h4;have hlt:=oK h3;rw[he]at hlt;have hs0:s=0:=by
    rcases Qg0 s 1 with h|h
    ·omega
    ·have:s=1:=ae;subst this;generalize 4294967296 ^ a.length=p at*;omega
   subst hs0;refine .inr ⟨_,?_,?_,o,h3,ae,he,rfl⟩
   ·simp only[he,Q51,FI];exact Ex.of (QO 0 a b (LL o) a.length 0)
   ·simp
 ·refine⟨aC,aC,?_,?_⟩
  ·intro x hx;cases hx
  ·simp[val,cK]
theorem Cf (a b:List Nat)(la:a.length<=1000000000)(lb:b.length<=a.length)(ha:cu a)(hb:cu b)(hab:val b<=val a) :
  Ca E0 Ux [.d (LD a),.d (LD b)] (.d (LD (enc (val a-val b))),none):=by
 obtain⟨r,hl,o,ho,hv,hol,rfl⟩:=MF a b la lb ha hb hab;obtain⟨n0,hc⟩:=(iP o ae).get;rw[dm ho,hv]at hc;have hlo:(LL o).length=a.length:=by simp[LL,hol]
 have hla:(LL a).length=a.length:=by simp[LL]
 have htk:(LL o).take a.length=LL o:=Qe0 ae;have hz:=xk a.length;generalize enc (val a-val b)=res at*;refine Ca.body (o:=.ret) (st1:=(st0 (.u::.u::.d (LD res)::qi) [.iA 0 1 (LL o)])) rfl (aO 229 f229:E0.fn _=_) rfl ?_ (by intro id h;cases h) ?_
 ·show Ex E0 (.seq zk.body.l (.seq zk.body.r.l (.seq zk.body.r.r.l (.seq (.seq zk.body.r.r.r.l.l (.block 0 (.loop miB))) zk.body.r.r.r.r)))) _ _;refine Ex.seq (st1:=(st0 (.d (LD a)::.d (LD b)::xh) [])) (Ex.of (n:=40) ?_)
   (Ex.seq (st1:=(st0 (.d (LD a)::.d (LD b)::.u::.ls (.loc 0) 0 1 0 a.length::rM) [.row 0 1 (LL (row0 [] a.length))])) (Ex.of (n:=40) ?_)
   (Ex.seq (st1:=(st0 (.d (LD a)::.d (LD b)::.u::.ls (.loc 0) 0 1 0 a.length::.d (.v (.int .u64 0))::jP) [.row 0 1 (LL (row0 [] a.length))])) (Ex.of (n:=40) ?_)
   (Ex.seq (Ex.seq (Ex.of (n:=40) ?_) hl.block) (Ex.of (n:=n0+40) ?_))))
  ·simp[f229]
  ·have hm1:(a.length:Int)*4<=1099511627776:=ae;have hm2:(a.length:Int)<=1099511627776:=ae;rw[hz];simp[f229,LD,hla,hm1,hm2,most]
  ·simp[f229]
  ·unfold Uy;simp[f229,LD,hla]
  ·unfold Uy;simp only[LD]at hc ⊢;clear hl;generalize LL o=es at*;simp[ai.view,f229,hlo,htk,hc]
 ·simp[f229,LD]
abbrev adM:Nat:=233
abbrev Cg:bM:=f233
theorem Uz {r:Nat}(hr:r<4294967296):MG .u64 (r:Int) 32=(r:Int)*4294967296:=by
 rw[Bt,<-dh];have h:(2:Int) ^ (min (Int.toNat 32) (IntKind.bits .u64))=4294967296:=by rfl
 rw[h,wrap_u64 ae]
theorem Ch {r x:Nat}(hr:r<4294967296)(hx:x<4294967296) :
  Ci .u64 ((r:Int)*4294967296) (x:Int)=(r:Int)*4294967296+(x:Int):=by
 rw[zn,<-dh]
 change ak .u64 ((BitVec.ofInt 64 ((r:Int)*4294967296) ||| BitVec.ofInt 64 (x:Int)).toNat:Int)=_
 rw[BitVec.ofInt_natCast];have hs:r <<< 32=r*4294967296:=by rw[Nat.shiftLeft_eq]
 have h0:((r:Int)*(4294967296:Int))=((r <<< 32:Nat):Int):=by rw[hs];omega
 have e1:BitVec.ofInt 64 ((r:Int)*(4294967296:Int))=BitVec.ofNat 64 (r <<< 32):=by
  rw[h0,BitVec.ofInt_natCast]
 have l1:r <<< 32<2 ^ 64:=by rw[hs];omega
 have l2:x<2 ^ 64:=ae;have l3:x<2 ^ 32:=ae;rw[e1,BitVec.toNat_or,BitVec.toNat_ofNat,BitVec.toNat_ofNat,Qx2 l1,Qx2 l2,<-Xq2 l3,hs];rw[wrap_u64 ae];omega
theorem Ah {r d x B:Nat}(hr:r<d)(hx:x<B):(r*B+x) / d<B:=by
 rw[Qv0 ae];have h1:=Qf0 B hr;rw[Nat.succ_mul]at h1;rw[Ql2 B d];omega
def smB:aG:=Cg.body.r.r.l.r.bl.lp
def UA (a:List Nat)(es:List D)(d n:Nat)(k:Int)(r:Nat)(t:FV):St:=(st0 [.d (LD a),.d (.v (.int .u32 d)),.u,.u,.ls (.loc 0) 0 1 0 n,.d (.v (.int .u64 r)),dI k,t] [.row 0 1 es])
theorem QP (n:Nat)(a:List Nat)(es:List D)(d l r:Nat):EX E0 (n+60) smB (UA a es d l (-1) r .u)=some (.exit 0,UA a es d l (-1) r (dB false)):=by
 unfold UA;simp[smB,f233]
theorem Js (n:Nat)(a:List Nat)(es:List D)(l d k r x:Nat)(hk:k<l)(hl:l<=1000000000)(hx:a[k]?=some x)(hx32:x<4294967296)(hd:d<4294967296)(hr:r<d)(he:es.length=l)
  (hz:es[k]?=some (.v (.int .u32 0))) :
  EX E0 (n+60) smB (UA a es d l k r .u)=some (.norm,UA a (es.set k (.v (.int .u32 (((r*4294967296+x) / d:Nat):Int)))) d l ((k:Int)-1) ((r*4294967296+x) % d) .u):=by
 have hdec:ak .i64 ((k:Int)-1)=(k:Int)-1:=wrap_i64 ae;have hk0:(0:Int)<=(k:Int):=ae;have hk':k<l:=hk;have hxa:(LL a)[k]?=some (.v (.int .u32 (x:Int))):=by simp[LL,hx]
 have ajX:=idx hxa;have hz2:=idx hz;have hla:k<a.length:=(aU hx)
 have hq:(r*4294967296+x) / d<4294967296:=Ah hr hx32;have hm:(r*4294967296+x) % d<d:=Qw0 _ ae;have w2:ak .u64 (x:Int)=(x:Int):=wrap_u64 ae;have w4:ak .u64 (d:Int)=(d:Int):=wrap_u64 ae;have hd0:¬ ((d:Int)=0):=ae;have ZO:¬ d=0:=ae;obtain⟨R,hR⟩:∃ R:Nat,R=r*4294967296:=⟨_,rfl⟩
 obtain⟨Y,hY⟩:∃ Y:Nat,Y=r*4294967296+x:=⟨_,rfl⟩
 have w1:MG .u64 (r:Int) 32=(R:Int):=by rw[Uz ae];omega
 have w3:Ci .u64 (R:Int) (x:Int)=(Y:Int):=by
  have:=Ch (r:=r) (x:=x) ae hx32;rw[show(R:Int)=(r:Int)*4294967296 by omega,this];omega
 rw[<-hY]at hq hm ⊢;clear hY hR;have w5:Int.tdiv (Y:Int) (d:Int)=((Y / d:Nat):Int):=by rw[Q82 ae,X11]
 have w6:Int.tmod (Y:Int) (d:Int)=((Y % d:Nat):Int):=by rw[Xg1 ae,Int.natCast_emod]
 generalize Y / d=qq,Y % d=mm at*;have w7:ak .u64 (qq:Int)=(qq:Int):=wrap_u64 ae;have w8:ak .u32 (qq:Int)=(qq:Int):=wrap_u32 ae;unfold UA;simp only[LD];generalize LL a=xs at*;simp[IntKind.bits,smB,f233,hk',hk0,hdec,hxa,ajX,hz,hz2,w1,w2,w3,w4,w5,w6,w7,w8,hd0,ZO]
def kE (m:Nat)(q:List Nat):List Nat:=List.replicate m 0++q
theorem O_ (q:List Nat)(m:Nat):(LL (kE (m+1) q))[m]?=some (.v (.int .u32 0)):=by
 simp[LL,kE,Qa0]
theorem Jt (q:List Nat)(m v:Nat):(LL (kE (m+1) q)).set m (.v (.int .u32 (v:Int)))=LL (kE m (v::q)):=by
 simp only[LL,kE,Qq2,List.map_replicate,List.replicate_succ',Qm1];rw[Qx1 _ _ aC];simp
theorem rZ (q:List Nat)(m:Nat):(LL (kE m q)).length=m+q.length:=by simp[LL,kE]
def smI (a:List Nat)(d:Nat)(t:Nat × List Nat × Nat):Prop :=
 t.1<=a.length/\t.1+t.2.1.length=a.length/\t.2.2<d/\cu t.2.1/\val (a.drop t.1)=val t.2.1*d+t.2.2
theorem MH {B V d r x Y:Nat}(hY:Y=r*B+x):x+B*(V*d+r)=(Y / d+B*V)*d+Y % d:=by
 have:=Xt1 Y d;rw[Qr0];have e:B*(V*d+r)=B*V*d+r*B:=by rw[Xe2,Q81,Ql2 r B]
 rw[e,Ql2 (Y / d) d];omega
theorem MI (a:List Nat)(d:Nat)(la:a.length<=1000000000)(ha:cu a)(hd:d<4294967296)(hd0:0<d) :
  ∃ r,Ex E0 (.loop smB) (UA a (LL (kE a.length [])) d a.length ((a.length:Int)-1) 0 .u) r /\
   ∃ q m,cu q/\q.length=a.length/\val q=val a / d/\m=val a % d/\r=(.exit 0,UA a (LL q) d a.length (-1) m (dB false)):=by
 refine Ex.inv (S:=fun t:Nat × List Nat × Nat=>UA a (LL (kE t.1 t.2.1)) d a.length ((t.1:Int)-1) t.2.2 .u) (fun t=>t.1) (smI a d) _ ?_ (a.length,[],0) ?_
 ·rintro⟨k,q,r⟩ ⟨h1,h2,h3,h4,h5⟩;simp only at h1 h2 h3 h4 h5;cases k with
  | zero =>
   refine .inr ⟨_,?_,?_,q,r,h4,ae,?_,?_,rfl⟩
   ·have:=QP 0 a (LL q) d a.length r;simpa[kE] using Ex.of this
   ·simp
   ·rw[Xx0]at h5;rw[h5,Ql2,Xo2 hd0,Xd1 h3];rfl
   ·rw[Xx0]at h5;rw[h5,Ql2,X31,Qx2 h3]
  | succ k =>
   have hx:a[k]?=some (a[k]'(by omega)):=Qa1 ae;have hx32:a[k]'(by omega)<4294967296:=ha _ (Qi2 _);have hat:bI a k=a[k]'(by omega):=by simp[bI,hx]
   generalize a[k]'(by omega)=x at hx hx32 hat;have hr:=Js 0 a (LL (kE (k+1) q)) a.length d k r x ae la hx hx32 hd h3 (by rw[rZ];omega) (O_ q k);rw[Jt]at hr;refine .inl ⟨(k,(r*4294967296+x) / d::q,(r*4294967296+x) % d),?_,aC,?_,?_,?_,?_,?_⟩
   ·simp only;rw[show(((k+1:Nat):Int)-1)=(k:Int) by omega];exact Ex.of hr
   ·simp only;omega
   ·simp only[Qf1];omega
   ·exact Qw0 _ hd0
   ·intro y hy;rcases Qj0.1 hy with rfl|hy
    ·exact Ah h3 hx32
    ·exact h4 y hy
   ·simp only[val];rw[jr,hat,h5];exact MH rfl
 ·refine⟨aC,aC,hd0,?_,?_⟩
  ·intro x hx;cases hx
  ·simp[val]
theorem UB (a:List Nat)(d:Nat)(la:a.length<=1000000000)(ha:cu a)(hd:d<4294967296)(hd0:0<d) :
  Ca E0 adM [.d (LD a),.d (.v (.int .u32 d))] (.d (.t [LD (enc (val a / d)),.v (.int .u32 ((val a % d:Nat):Int))]),none):=by
 obtain⟨r,hl,q,m,hq,hql,hv,hm,rfl⟩:=MI a d la ha hd hd0;obtain⟨n0,hc⟩:=(iP q ae).get;rw[dm hq,hv]at hc;have hlo:(LL q).length=a.length:=by simp[LL,hql]
 have hla:(LL a).length=a.length:=by simp[LL]
 have htk:(LL q).take a.length=LL q:=Qe0 ae;have hz:LL (kE a.length [])=List.replicate a.length (.v (.int .u32 0)):=by simp[LL,kE]
 have hmd:m<4294967296:=by have:=Qw0 (val a) hd0;omega
 have hw:ak .u32 (m:Int)=(m:Int):=wrap_u32 ae;rw[<-hm];generalize enc (val a / d)=res at*;refine Ca.body (o:=.ret) (st1:=(st0 (.u::.u::.d (LD res)::.d (.v (.int .u32 m))::rJ) [.iA 0 1 (LL q)])) rfl (aO 233 f233:E0.fn _=_) rfl ?_ (by intro id h;cases h) ?_
 ·show Ex E0 (.seq Cg.body.l (.seq Cg.body.r.l (.seq (.seq Cg.body.r.r.l.l (.block 0 (.loop smB))) Cg.body.r.r.r))) _ _;refine Ex.seq (st1:=(st0 (.d (LD a)::.d (.v (.int .u32 d))::rM) [])) (Ex.of (n:=40) ?_)
   (Ex.seq (st1:=(st0 [.d (LD a),.d (.v (.int .u32 d)),.u,.u,.ls (.loc 0) 0 1 0 a.length,.d (.v (.int .u64 0)),.u,.u] [.row 0 1 (LL (kE a.length []))])) (Ex.of (n:=40) ?_)
   (Ex.seq (Ex.seq (Ex.of (n:=40) ?_) hl.block) (Ex.of (n:=n0+40) ?_)))
  ·simp[f233]
  ·have hm1:(a.length:Int)*4<=1099511627776:=ae;have hm2:(a.length:Int)<=1099511627776:=ae;rw[hz];simp[f233,LD,hla,hm1,hm2,most]
  ·have hdec:ak .i64 ((a.length:Int)-1)=(a.length:Int)-1:=wrap_i64 ae;unfold UA;simp[f233,LD,hla,hdec]
  ·unfold UA;simp only[LD]at hc ⊢;clear hl;generalize LL q=es at*;simp[ai.view,f233,hlo,htk,hc,hw]
 ·simp[f233,LD,o8]
abbrev UC:Nat:=188
abbrev Cj:bM:=f188
theorem Bu:∀ (O:List Nat) (m v:Nat),m<O.length->val (O.set m v)+4294967296 ^ m*bI O m=val O+4294967296 ^ m*v
 | [],m,v,h=>by simp at h
 | y::r,0,v,_=>by simp[val,bI];omega
 | y::r,m+1,v,h=>by
  have ih:=Bu r m v (by simpa using h);rw[X70,val,val];have:bI (y::r) (m+1)=bI r m:=by simp[bI]
  rw[this,Qn2];generalize 4294967296 ^ m=p,bI r m=q at*;have e1:p*4294967296*q=4294967296*(p*q):=by grind
  have e2:p*4294967296*v=4294967296*(p*v):=by grind
  rw[e1,e2];omega
theorem Hf {O:List Nat}(h:cu O){m v:Nat}(hv:v<4294967296):cu (O.set m v):=by
 intro x hx;rcases Q40 hx with h1|h1
 ·exact h x h1
 ·omega
def Hg:aG:=Cj.body.r.r.l.r.bl.lp
def tjB:aG:=Hg.r.r.l.bl.r.r.r.bl.lp
def UD (a b O:List Nat)(n i s j:Nat)(t:FV):St:=(st0 [.d (LD a),.d (LD b),.u,.ls (.loc 0) 0 1 0 n,dI i,.d (.v (.int .u64 s)),dI j,dI a.length,dI i,.u,t] [.row 0 1 (LL O)])
theorem QQ (n:Nat)(a b O:List Nat)(l i j:Nat)(hj:¬ j<b.length):EX E0 (n+60) tjB (UD a b O l i 0 j .u)=some (.exit 2,UD a b O l i 0 j (dB false)):=by
 have hlb:(LL b).length=b.length:=by simp[LL]
 unfold UD;simp only[LD];generalize LL b=bs,LL a=as' at*;simp[tjB,Hg,f188,hlb,hj]
theorem Ju (n:Nat)(a b O:List Nat)(l i s j T:Nat)(hc:j<b.length\/0<s)(hm:i+j<l)(hl:l<=1000000000)(la:a.length<=1000000000)(lb:b.length<=1000000000)(ha:cu a)(hb:cu b)(hO:cu O)
  (he:O.length=l) (hs:s<4294967296) (hT:T=s+(bI O (i+j)+bI a i*bI b j)) :
  EX E0 (n+60) tjB (UD a b O l i s j .u)=some (.norm,UD a b (O.set (i+j) (T % 4294967296)) l i (T / 4294967296) (j+1) .u):=by
 have h1:=fun m=>kJ m a la i ae ha
 have h2:=fun m=>kJ m b lb j ae hb
 have xa:=dx ha i;have xb:=dx hb j;have xo:=dx hO (i+j);have ho:(LL O)[i+j]?=some (.v (.int .u32 (bI O (i+j):Int))):=by
  have:O[i+j]?=some (O[i+j]'(by omega)):=Qa1 ae;simp[LL,bI,this]
 have hset:LL (O.set (i+j) (T % 4294967296))=(LL O).set (i+j) (.v (.int .u32 ((T % 4294967296:Nat):Int))):=by simp[LL,Q52]
 have hlb:(LL b).length=b.length:=by simp[LL]
 simp only[LD]at h1 h2;have aS:ak .i64 ((j:Int)+1)=(j:Int)+1:=wrap_i64 ae;have hk1:((j+1:Nat):Int)=(j:Int)+1:=ae;unfold UD;rw[hset,hk1];generalize bI a i=x,bI b j=y,bI O (i+j)=o at*;have hxy:x*y<=4294967295*4294967295:=Q92 ae ae;have wm:ak .i64 ((i:Int)+(j:Int))=((i+j:Nat):Int):=by rw[wrap_i64 ae];omega
 generalize i+j=m at*;obtain⟨P,hP⟩:∃ P:Nat,P=x*y:=⟨_,rfl⟩
 have w1:ak .u64 ((x:Int)*(y:Int))=(P:Int):=by rw[<-Int.natCast_mul,<-hP];exact wrap_u64 ae
 rw[<-hP]at hT hxy;have w2:ak .u64 (o:Int)=(o:Int):=wrap_u64 ae;obtain⟨Q,hQ⟩:∃ Q:Nat,Q=o+P:=⟨_,rfl⟩
 have w3:ak .u64 ((o:Int)+(P:Int))=(Q:Int):=by rw[wrap_u64 ae];omega
 have w4:ak .u64 ((s:Int)+(Q:Int))=(T:Int):=by rw[wrap_u64 ae];omega
 have w5:ak .u32 (T:Int)=((T % 4294967296:Nat):Int):=by rw[dQ];omega
 have w6:Int.fdiv (T:Int) 4294967296=((T / 4294967296:Nat):Int):=by rw[Qn0 _ ae];omega
 clear hP hQ hT hxy;generalize T % 4294967296=lo,T / 4294967296=hi at*;have hm0:(0:Int)<=(m:Int):=ae;have ho2:=idx ho;simp only[LD];generalize LL b=bs,LL a=as',LL O=es at*
 by_cases hj:j<b.length
 ·simp[IntKind.bits,tjB,Hg,f188,hlb,hj,h1,h2,aS,wm,hm,hm0,ho,ho2,w1,w2,w3,w4,w5,w6]
 ·have hs0:0<s:=ae;simp[IntKind.bits,tjB,Hg,f188,hlb,hj,hs0,h1,h2,aS,wm,hm,hm0,ho,ho2,w1,w2,w3,w4,w5,w6]
theorem MJ {V V' P o lo hi s xy:Nat}(h1:V'+P*o=V+P*lo)(h2:s+(o+xy)=lo+4294967296*hi):V'+hi*(P*4294967296)=V+s*P+P*xy:=by
 have h3:P*(s+(o+xy))=P*(lo+4294967296*hi):=by rw[h2]
 grind
def tjI (a b:List Nat)(n i:Nat)(t:List Nat × Nat × Nat):Prop :=
 t.1.length=n/\cu t.1/\t.2.1<4294967296/\val t.1+t.2.1*4294967296 ^ (i+t.2.2)=cK a i*val b+4294967296 ^ i*(bI a i*cK b t.2.2)
theorem Ck {a b:List Nat}{i j:Nat}(hj:b.length<=j):cK a i*val b+4294967296 ^ i*(bI a i*cK b j)=cK a (i+1)*val b:=by
 rw[fU hj,eP,Qr0,Q81]
theorem UE {a b:List Nat}(ha:cu a)(hb:cu b)(i:Nat):cK a (i+1)*val b<4294967296 ^ (i+1+b.length):=by
 have h1:=o7 ha (i+1);have h2:=oK hb;rw[Qy2];exact Nat.mul_lt_mul_of_lt_of_le h1 (Nat.le_of_lt h2) (Qs0 ae)
theorem MK {a b O:List Nat}{i j s:Nat}(ha:cu a)(hb:cu b)(hj:b.length<=j)
  (h:val O+s*4294967296 ^ (i+j)=cK a i*val b+4294967296 ^ i*(bI a i*cK b j)) (hs:0<s):j=b.length:=by
 rw[Ck hj]at h;have h1:=UE ha hb i;rcases Qg0 b.length j with h2|h2
 ·exfalso;have h3:4294967296 ^ (i+1+b.length)<=4294967296 ^ (i+j):=Qu1 ae ae;have h4:4294967296 ^ (i+j)<=s*4294967296 ^ (i+j):=Nat.le_mul_of_pos_left _ hs;omega
 ·omega
theorem Jv (a b O:List Nat)(i:Nat)(hi:i<a.length)(la:a.length<=100000000)(lb:b.length<=100000000)(ha:cu a)(hb:cu b)(hO:cu O)(he:O.length=a.length+b.length)(hv:val O=cK a i*val b) :
  ∃ r,Ex E0 (.loop tjB) (UD a b O (a.length+b.length) i 0 0 .u) r/\∃ O' j,cu O'/\O'.length=a.length+b.length/\val O'=cK a (i+1)*val b /\
   r=(.exit 2,UD a b O' (a.length+b.length) i 0 j (dB false)):=by
 refine Ex.inv (S:=fun t:List Nat × Nat × Nat=>UD a b t.1 (a.length+b.length) i t.2.1 t.2.2 .u) (fun t=>b.length+2-t.2.2) (tjI a b (a.length+b.length) i) _ ?_ (O,0,0) ?_
 ·rintro⟨O,s,j⟩ ⟨h1,h2,h3,h4⟩;simp only at h1 h2 h3 h4
  by_cases hc:j<b.length\/0<s
  ·have hjb:j<=b.length:=by
    rcases Qg0 j b.length with h|h
    ·omega
    ·exact Nat.le_of_eq (MK ha hb h h4 ae)
   have hr:=Ju 0 a b O (a.length+b.length) i s j _ hc ae ae ae ae ha hb h2 h1 h3 rfl;have hset:=Bu O (i+j) ((s+(bI O (i+j)+bI a i*bI b j)) % 4294967296) ae;have xo:=dx h2 (i+j);have xa:=dx ha i;have xb:=dx hb j;have hxy:bI a i*bI b j<=4294967295*4294967295:=Q92 ae ae;have hT:(s+(bI O (i+j)+bI a i*bI b j))=(s+(bI O (i+j)+bI a i*bI b j)) % 4294967296+4294967296*((s+(bI O (i+j)+bI a i*bI b j)) / 4294967296):=ae;refine .inl ⟨(O.set (i+j) ((s+(bI O (i+j)+bI a i*bI b j)) % 4294967296),(s+(bI O (i+j)+bI a i*bI b j)) / 4294967296,j+1),Ex.of hr,?_,?_,?_,?_,?_⟩
   ·simp only;omega
   ·simp[h1]
   ·exact Hf h2 (Qw0 _ ae)
   ·simp only;generalize bI a i*bI b j=xy at*;omega
   ·simp only;have:=MJ hset hT;rw[show i+(j+1)=(i+j)+1 by omega,Qn2,this,h4,eP];rw[Qy2];generalize 4294967296 ^ i=p;generalize 4294967296 ^ j=q;grind
  ·have hs:s=0:=ae;subst hs;have hj:b.length<=j:=ae;rw[Ck hj]at h4;refine .inr ⟨_,Ex.of (QQ 0 a b O (a.length+b.length) i j ae),aC,O,j,h2,h1,ae,rfl⟩
 ·exact⟨he,hO,aC,by simp[hv,cK,val]⟩
def Mk (a b O:List Nat)(i:Nat)(t:FV):St:=(st0 [.d (LD a),.d (LD b),.u,.ls (.loc 0) 0 1 0 (a.length+b.length),.u,.u,.u,dI a.length,dI i,t,.u] [.row 0 1 (LL O)])
theorem Jw (a b:List Nat)(la:a.length<=100000000)(lb:b.length<=100000000)(ha:cu a)(hb:cu b) :
  ∃ r,Ex E0 (.loop Hg) (Mk a b (row0 [] (a.length+b.length)) 0 .u) r/\∃ O,cu O/\O.length=a.length+b.length/\val O=val a*val b/\r=(.exit 0,Mk a b O a.length (dB false)):=by
 refine Ex.inv (S:=fun t:List Nat × Nat=>Mk a b t.1 t.2 .u) (fun t=>a.length-t.2) (fun t=>t.2<=a.length/\t.1.length=a.length+b.length/\cu t.1/\val t.1=cK a t.2*val b) _ ?_ (row0 [] (a.length+b.length),0) ?_
 ·rintro⟨O,i⟩ ⟨h1,h2,h3,h4⟩;simp only at h1 h2 h3 h4
  by_cases hi:i<a.length
  ·obtain⟨r,hr,O',j,g1,g2,g3,rfl⟩:=Jv a b O i hi la lb ha hb h3 h2 h4;refine .inl ⟨(O',i+1),?_,by simp only;omega,by simp only;omega,g2,g1,g3⟩;have aS:ak .i64 ((i:Int)+1)=(i:Int)+1:=wrap_i64 ae;have hk1:((i+1:Nat):Int)=(i:Int)+1:=ae;show Ex E0 (.seq Hg.l (.seq Hg.r.l (.seq (.block 1 (.seq Hg.r.r.l.bl.l (.seq Hg.r.r.l.bl.r.l (.seq Hg.r.r.l.bl.r.r.l (.block 2 (.loop tjB)))))) Hg.r.r.r))) _ _;refine Ex.seq (st1:=Mk a b O i (dB true)) (Ex.of (n:=40) ?_) (Ex.seq (st1:=Mk a b O i (dB true)) (Ex.of (n:=40) ?_) (Ex.seq (Ex.fE
    (Ex.seq (st1:={Mk a b O i .u with vars:=[.d (LD a),.d (LD b),.u,.ls (.loc 0) 0 1 0 (a.length+b.length),dI i,.u,.u,dI a.length,dI i,.u,.u]}) (Ex.of (n:=40) ?_)
    (Ex.seq (st1:={Mk a b O i .u with vars:=[.d (LD a),.d (LD b),.u,.ls (.loc 0) 0 1 0 (a.length+b.length),dI i,.d (.v (.int .u64 0)),.u,dI a.length,dI i,.u,.u]}) (Ex.of (n:=40) ?_)
    (Ex.seq (Ex.of (n:=40) ?_) hr.block)))) (Ex.of (n:=40) ?_)))
   ·unfold Mk;simp[Hg,f188,hi]
   ·unfold Mk;simp[Hg,f188]
   ·unfold Mk;simp[Hg,f188]
   ·unfold Mk;simp[Hg,f188]
   ·unfold Mk UD;simp[Hg,f188]
   ·unfold Mk UD;rw[hk1];simp[Hg,f188,aS]
  ·have he:i=a.length:=ae;subst he;rw[fU (Qe1 _)]at h4;refine .inr ⟨_,Ex.of (n:=60) ?_,?_,O,h3,h2,h4,rfl⟩
   ·unfold Mk;simp[Hg,f188]
   ·simp
 ·refine⟨aC,by simp[row0],?_,?_⟩
  ·intro x hx;simp[row0]at hx;omega
  ·have:∀ m,val (List.replicate m 0)=0:=by
    intro m
    induction m with
    | zero=>rfl
    | succ m ih=>rw[Xb0,val,ih]
   simp[row0,cK,val,this]
theorem Jy (a b:List Nat)(la:a.length<=100000000)(lb:b.length<=100000000)(ha:cu a)(hb:cu b) :
  Ca E0 UC [.d (LD a),.d (LD b)] (.d (LD (enc (val a*val b))),none):=by
 obtain⟨r,hl,o,ho,hol,hv,rfl⟩:=Jw a b la lb ha hb;obtain⟨n0,hc⟩:=(iP o ae).get;rw[dm ho,hv]at hc;have hlo:(LL o).length=a.length+b.length:=by simp[LL,hol]
 have hla:(LL a).length=a.length:=by simp[LL]
 have hlb:(LL b).length=b.length:=by simp[LL]
 have htk:(LL o).take (a.length+b.length)=LL o:=Qe0 ae;have hz:=xk (a.length+b.length);generalize enc (val a*val b)=res at*;refine Ca.body (o:=.ret) (st1:=(st0 (.u::.u::.d (LD res)::xh) [.iA 0 1 (LL o)])) rfl (aO 188 f188:E0.fn _=_) rfl ?_ (by intro id h;cases h) ?_
 ·show Ex E0 (.seq Cj.body.l (.seq Cj.body.r.l (.seq (.seq Cj.body.r.r.l.l (.block 0 (.loop Hg))) Cj.body.r.r.r))) _ _;refine Ex.seq (st1:=(st0 (.d (LD a)::.d (LD b)::Jh) [])) (Ex.of (n:=40) ?_)
   (Ex.seq (st1:=(st0 (.d (LD a)::.d (LD b)::.u::.ls (.loc 0) 0 1 0 (a.length+b.length)::qi) [.row 0 1 (LL (row0 [] (a.length+b.length)))])) (Ex.of (n:=40) ?_)
   (Ex.seq (Ex.seq (Ex.of (n:=40) ?_) hl.block) (Ex.of (n:=n0+40) ?_)))
  ·simp[f188]
  ·have hw:ak .i64 ((a.length:Int)+(b.length:Int))=((a.length+b.length:Nat):Int):=by rw[wrap_i64 ae];omega
   have hmb:a.length+b.length<=200000000:=ae;rw[hz];generalize a.length+b.length=m at*;have hm1:(m:Int)*4<=1099511627776:=ae;have hm2:(m:Int)<=1099511627776:=ae;simp[f188,LD,hla,hlb,hw,hm1,hm2,most]
  ·unfold Mk;simp[f188,LD,hla]
  ·unfold Mk;simp only[LD]at hc ⊢;clear hl;generalize LL o=es,a.length+b.length=m at*;simp[ai.view,f188,hlo,htk,hc]
 ·simp[f188,LD]
abbrev acH:Nat:=226
abbrev Ai:bM:=f226
abbrev ajY:Nat:=183
abbrev adP:bM:=f183
theorem jQ {d:Nat}(h0:0<d)(h:d<4294967296):enc d=[d]:=by
 rw[enc,if_neg ae,Qx2 h,Xd1 h];simp[enc]
theorem dF:enc 0=[]:=by simp[enc]
theorem Jz (r:Nat)(h:r<4294967296):trim [r]=enc r:=by
 rw[dm (by intro x hx;simp at hx;omega)];simp[val]
theorem UF (a:List Nat)(d:Nat)(la:a.length<=1000000000)(ha:cu a)(hd:d<4294967296)(hd0:0<d) :
  Ca E0 acH [.d (LD a),.d (LD (enc d))] (.d (.t [LD (enc (val a / d)),LD (enc (val a % d))]),none):=by
 obtain⟨n0,hs⟩:=(UB a d la ha hd hd0).any;have hm:val a % d<4294967296:=by have:=Qw0 (val a) hd0;omega
 obtain⟨n1,hc⟩:=(iP [val a % d] aC).any;replace hs:=hs (n0+n1) ae;replace hc:=hc (n0+n1) ae;generalize n0+n1=N at*;rw[Jz _ hm]at hc;rw[jQ hd0 hd];generalize enc (val a / d)=q,val a % d=m at*;generalize enc m=r at*;simp only[LD,LL,Qd2,Qc2]at hs hc ⊢;refine Ca.bQ (n:=N+60) ?_;rw[aB rfl (k226:E0.fn _=_) rfl];generalize List.map (fun(x:Nat)=>D.v (Value.int IntKind.u32 (x:Int))) a=as' at*;simp[f226,o8,hs,hc]
def gcB:aG:=adP.body.r.l.bl.lp
def EW (a b:Nat)(t:FV):St:=(st0 [.d (LD (enc a)),.d (LD (enc b)),.u,.u,t] [])
theorem gI {n k:Nat}(h:n<4294967296 ^ k):(enc n).length<=k:=by
 induction k generalizing n with
 | zero => have : n = 0 := by simp at h;omega
           subst this;simp[dF]
 | succ k ih =>
  rw[enc];split
  ·simp
  ·simp only[Qf1];have:=ih (n:=n / 4294967296) (by rw[Qn2]at h;omega);omega
theorem ZP (a:Nat):Ex E0 gcB (EW a 0 .u) (.exit 0,EW a 0 (dB false)):=by
 refine Ex.of (n:=40) ?_;unfold EW;simp only[dF,LD];generalize LL (enc a)=as';simp[gcB,f183,LL]
abbrev ag_:Nat:=267
abbrev FJ:bM:=f267
theorem QR {x s:Nat}(hx:x<4294967296)(hs:s<32):MG .u64 (x:Int) (s:Int)=((x*2 ^ s:Nat):Int):=by
 have hp:2 ^ s<=2147483648:=by
  have:=Qu1 (n:=2) ae (show s<=31 by omega);simpa using this
 have hxs:x*2 ^ s<=4294967295*2147483648:=Q92 ae hp;rw[Bt,<-dh];have h:(2:Int) ^ (min (Int.toNat (s:Int)) (IntKind.bits .u64))=((2 ^ s:Nat):Int):=by
  have:min (Int.toNat (s:Int)) (IntKind.bits .u64)=s:=by simp[IntKind.bits];omega
  rw[this];simp
 rw[h,<-Int.natCast_mul];exact wrap_u64 ae
theorem adQ {r x s:Nat}(hr:r<2 ^ s)(hx:x<4294967296)(hs:s<32):Ci .u64 (r:Int) ((x*2 ^ s:Nat):Int)=((r+x*2 ^ s:Nat):Int):=by
 have hp:2 ^ s<=2147483648:=by
  have:=Qu1 (n:=2) ae (show s<=31 by omega);simpa using this
 have hxs:x*2 ^ s<=4294967295*2147483648:=Q92 ae hp;rw[zn,<-dh]
 change ak .u64 ((BitVec.ofInt 64 (r:Int) ||| BitVec.ofInt 64 ((x*2 ^ s:Nat):Int)).toNat:Int)=_
 have e:x*2 ^ s=x <<< s:=by rw[Nat.shiftLeft_eq]
 have l1:r<2 ^ 64:=ae;have l2:x <<< s<2 ^ 64:=by rw[<-e];omega
 rw[BitVec.ofInt_natCast,BitVec.ofInt_natCast,BitVec.toNat_or,BitVec.toNat_ofNat,BitVec.toNat_ofNat,e,Qx2 l1,Qx2 l2,Nat.or_comm,<-Xq2 hr,Xm2];refine wrap_u64 ?_;rw[<-e];omega
def leB:aG:=FJ.body.r.r.r.l.r.bl.lp
def ZQ (a o:List Nat)(k z j r:Nat)(t:FV):St:=(st0 [.u,dI k,.u,.ls (.loc 0) j 1 0 (z+j),.d (.v (.int .u64 r)),.u,.d (LD a),dI a.length,dI j,t] [.row j 1 (LL o)])
theorem ML (a o:List Nat)(k z s j r x:Nat)(hk:k=32*z+s)(hs:s<32)(hz:z<=100000000)(hx:a[j]?=some x)(hx32:x<4294967296)(la:a.length<=100000000)(ho:o.length=z+j)(hr:r<2 ^ s) :
  EX E0 60 leB (ZQ a o k z j r .u)=some (.norm,ZQ a (o++[(r+x*2 ^ s) % 4294967296]) k z (j+1) ((r+x*2 ^ s) / 4294967296) .u):=by
 have hj:=(aU hx)
 have hx':(LL a)[j]?=some (.v (.int .u32 (x:Int))):=by simp[LL,hx]
 have hx2:=idx hx';have hp:2 ^ s<=2147483648:=by
  have:=Qu1 (n:=2) ae (show s<=31 by omega);simpa using this
 have hxs:x*2 ^ s<=4294967295*2147483648:=Q92 ae hp;have w1:ak .u64 (x:Int)=(x:Int):=wrap_u64 ae;have w2:Int.tmod (k:Int) 32=(s:Int):=by rw[Xg1 ae];omega
 have w3:=QR hx32 hs;have w4:=adQ hr hx32 hs;have hT:∃ T:Nat,T=r+x*2 ^ s:=⟨_,rfl⟩
 obtain⟨T,hT⟩:=hT;rw[<-hT]at w4 ⊢;have hTb:T<18446744073709551616:=ae;have hP:∃ P:Nat,P=x*2 ^ s:=⟨_,rfl⟩
 obtain⟨P,hP⟩:=hP;rw[<-hP]at w3 w4;have w5:ak .u32 (T:Int)=((T % 4294967296:Nat):Int):=by rw[dQ];omega
 have w6:Int.fdiv (T:Int) 4294967296=((T / 4294967296:Nat):Int):=by rw[Qn0 _ ae];omega
 have aS:ak .i64 ((j:Int)+1)=(j:Int)+1:=wrap_i64 ae;have hk1:((j+1:Nat):Int)=(j:Int)+1:=ae;have hj0:(0:Int)<=(j:Int):=ae;have hs0:¬ ((s:Int)<0):=ae;have hol:(LL o).length=z+j:=by simp[LL,ho]
 have htk:(LL o).take (z+j)=LL o:=Qe0 ae;have hm1:(z+j+1)*4<=most:=by simp[most];omega
 have hm2:z+j+1<=most:=by simp[most];omega
 have TR:LL (o++[T % 4294967296])=LL o++[.v (.int .u32 ((T % 4294967296:Nat):Int))]:=by simp[LL]
 clear hT hP hxs hp hTb;generalize T % 4294967296=lo,T / 4294967296=hi at*;unfold ZQ;rw[TR,hk1,<-Qw1];simp only[LD];generalize LL a=xs,LL o=es,z+j=m at*;simp[IntKind.bits,leB,f267,hj,hj0,hx',hx2,aS,hs0,w1,w2,w3,w4,w5,w6,hol,htk,hm1,hm2]
theorem left_step {V r Q x T W E:Nat}(h:V+r*Q=E*W)(hT:T=r+x):V+Q*(T % 4294967296)+T / 4294967296*(Q*4294967296)=E*W+Q*x:=by
 have h1:Q*(T % 4294967296)+T / 4294967296*(Q*4294967296)=Q*T:=by
  have:=Nat.mod_add_div T 4294967296;generalize T % 4294967296=a,T / 4294967296=b at*;subst this;grind
 have h2:Q*T=Q*r+Q*x:=by rw[hT,Xe2]
 have h3:Q*r=r*Q:=Ql2 _ _;omega
theorem QS (m:Nat):val (List.replicate m 0)=0:=by
 induction m with
 | zero=>rfl
 | succ m ih=>rw[Xb0,val,ih]
theorem QT (a:List Nat)(k z s:Nat)(hk:k=32*z+s)(hs:s<32)(hz:z<=100000000)(la:a.length<=100000000)(ha:cu a) :
  ∃ r,Ex E0 (.loop leB) (ZQ a (List.replicate z 0) k z 0 0 .u) r/\∃ o q,cu o/\o.length=z+a.length/\q<2 ^ s /\
   val o+q*4294967296 ^ (z+a.length)=4294967296 ^ z*2 ^ s*val a/\r=(.exit 0,ZQ a o k z a.length q (dB false)):=by
 refine Ex.inv (S:=fun t:List Nat × Nat × Nat=>ZQ a t.1 k z t.2.1 t.2.2 .u) (fun t=>a.length-t.2.1)
  (fun t=>t.2.1<=a.length/\t.1.length=z+t.2.1/\t.2.2<2 ^ s/\cu t.1/\val t.1+t.2.2*4294967296 ^ (z+t.2.1)=4294967296 ^ z*2 ^ s*cK a t.2.1) _ ?_ (List.replicate z 0,0,0) ?_
 ·rintro⟨o,j,r⟩ ⟨h1,h2,h3,h4,h5⟩;simp only at h1 h2 h3 h4 h5
  by_cases hj:j<a.length
  ·have hx:a[j]?=some (a[j]'hj):=Qa1 hj;have hx32:a[j]'hj<4294967296:=ha _ (Qi2 _);have hat:bI a j=a[j]'hj:=by simp[bI,hx]
   generalize a[j]'hj=x at hx hx32 hat;have hr:=ML a o k z s j r x hk hs hz hx hx32 la h2 h3;refine .inl ⟨(o++[(r+x*2 ^ s) % 4294967296],j+1,(r+x*2 ^ s) / 4294967296),Ex.of hr,by simp only;omega,by simp only;omega,?_,?_,?_,?_⟩
   ·simp only[Qb0,Qf1,Qs1];omega
   ·simp only;rw[Qv0 ae];have h6:x*2 ^ s+2 ^ s<=4294967296*2 ^ s:=by rw[<-Nat.succ_mul];exact Qf0 _ hx32
    rw[Ql2 (2 ^ s) 4294967296];omega
   ·exact iQ h4 (fun y hy=>by simp at hy;subst hy;exact Qw0 _ ae)
   ·simp only;rw[val_append,h2,eP,hat,<-Qw1,Qn2];have hv:val [(r+x*2 ^ s) % 4294967296]=(r+x*2 ^ s) % 4294967296:=by simp[val]
    rw[hv,left_step h5 rfl,Qy2];generalize 4294967296 ^ z=p;generalize 4294967296 ^ j=q;generalize 2 ^ s=t;grind
  ·have he:j=a.length:=ae;subst he;rw[fU (Qe1 _)]at h5;refine .inr ⟨_,Ex.of (n:=60) ?_,?_,o,r,h4,h2,h3,h5,rfl⟩
   ·unfold ZQ;simp[leB,f267]
   ·simp
 ·refine⟨aC,aC,Qs0 ae,?_,?_⟩
  ·intro x hx;have:=Xi2 hx;omega
  ·simp[QS,cK,val]
theorem Bv (a:List Nat)(k:Nat)(hk:k<=3200000000)(la:a.length<=100000000)(ha:cu a) :
  Ca E0 ag_ [.d (LD a),dI k] (.d (LD (enc (val a*2 ^ k))),none):=by
 obtain⟨z,s,hzs,hs⟩:∃ z s,k=32*z+s/\s<32:=⟨k / 32,k % 32,ae,ae⟩
 have hz:z<=100000000:=ae;obtain⟨r,hl,o,q,ho,hol,hq,hv,rfl⟩:=QT a k z s hzs hs hz la ha;have hp:2 ^ s<=2147483648:=by
  have:=Qu1 (n:=2) ae (show s<=31 by omega);simpa using this
 have amQ:q<4294967296:=ae;have hres:val (o++[q])=val a*2 ^ k:=by
  have e:2 ^ (32*z+s)=4294967296 ^ z*2 ^ s:=by rw[Qy2,X62]
  have hv2:val [q]=q:=by simp[val]
  rw[val_append,hol,hzs,e,hv2,Ql2 _ q,hv,Ql2]
 have hlim:cu (o++[q]):=iQ ho (fun y hy=>by simp at hy;omega);obtain⟨n0,hc⟩:=(iP (o++[q]) (by simp;omega)).get;rw[dm hlim,hres]at hc;have TR:LL (o++[q])=LL o++[.v (.int .u32 (q:Int))]:=by simp[LL]
 have hlo:(LL o).length=z+a.length:=by simp[LL,hol]
 have hla:(LL a).length=a.length:=by simp[LL]
 have htk:(LL o).take (z+a.length)=LL o:=Qe0 ae;have ajZ:(LL o++[D.v (.int .u32 (q:Int))]).take (z+a.length+1)=LL o++[.v (.int .u32 (q:Int))]:=Qe0 (by simp;omega);have hz0:LL (List.replicate z 0)=List.replicate z (.v (.int .u32 0)):=by simp[LL]
 have w5:ak .u32 (q:Int)=(q:Int):=wrap_u32 ae;have hm1:(z+a.length+1)*4<=most:=by simp[most];omega
 have hm2:z+a.length+1<=most:=by simp[most];omega
 generalize enc (val a*2 ^ k)=res at*;refine Ca.body (o:=.ret) (st1:=(st0 (.u::.u::.d (LD res)::qi) ([.iA (a.length+1) 1 (LL (o++[q]))]))) rfl (aO 267 f267:E0.fn _=_) rfl ?_ (by intro id h;cases h) ?_
 ·show Ex E0 (.seq FJ.body.l (.seq FJ.body.r.l (.seq FJ.body.r.r.l (.seq (.seq FJ.body.r.r.r.l.l (.block 0 (.loop leB))) FJ.body.r.r.r.r)))) _ _;refine Ex.seq (st1:=(st0 (.d (LD a)::dI k::xh) [])) (Ex.of (n:=40) ?_)
   (Ex.seq (st1:=(st0 (.d (LD a)::dI k::.u::.ls (.loc 0) 0 1 0 z::rM) [.row 0 1 (LL (List.replicate z 0))])) (Ex.of (n:=40) ?_)
   (Ex.seq (st1:=(st0 (.d (LD a)::dI k::.u::.ls (.loc 0) 0 1 0 z::.d (.v (.int .u64 0))::jP) [.row 0 1 (LL (List.replicate z 0))])) (Ex.of (n:=40) ?_)
   (Ex.seq (Ex.seq (Ex.of (n:=40) ?_) hl.block) (Ex.of (n:=n0+40) ?_))))
  ·simp[f267]
  ·have v1:Int.tdiv (k:Int) 32=(z:Int):=by rw[Q82 ae];omega
   have v2:ak .i64 (z:Int)=(z:Int):=wrap_i64 ae;have v3:ak .i64 ((z:Int)+(a.length:Int))=(z:Int)+(a.length:Int):=wrap_i64 ae;have v4:ak .i64 ((z:Int)+(a.length:Int)+1)=(z:Int)+(a.length:Int)+1:=wrap_i64 ae;have v5:(z:Int)<=(z:Int)+(a.length:Int)+1:=ae;have v6:((z:Int)+(a.length:Int)+1)*4<=1099511627776:=ae;have v7:(z:Int)+(a.length:Int)+1<=1099511627776:=ae;rw[hz0];clear hl;simp only[LD];generalize LL a=xs,a.length=m at*;simp[f267,hla,v1,v2,v3,v4,v5,v6,v7,most]
  ·simp[f267]
  ·unfold ZQ;simp[f267,LD,hla]
  ·unfold ZQ;rw[TR];simp only[LD]at hc ⊢;rw[TR]at hc;clear hl;generalize LL o=es,z+a.length=m at*;simp[ai.view,f267,hlo,htk,ajZ,hm1,hm2,w5,hc]
 ·simp[f267,LD]
abbrev adR:Nat:=268
abbrev Cm:bM:=f268
def riD (a:List Nat)(s i:Nat):Nat:=(bI a i+4294967296*bI a (i+1)) / 2 ^ s % 4294967296
theorem JA {x y V s:Nat}(hs:s<32)(hx:x<4294967296) :
  (x+4294967296*(y+4294967296*V)) / 2 ^ s=(x+4294967296*y) / 2 ^ s % 4294967296+4294967296*((y+4294967296*V) / 2 ^ s):=by
 have hp:0<2 ^ s:=Qs0 ae;have hq:2 ^ s*2 ^ (32-s)=4294967296:=by rw[<-Qy2,show s+(32-s)=32 by omega]
 generalize 2 ^ s=p,2 ^ (32-s)=q at*;have h1:=Nat.mod_add_div ((x+4294967296*(y+4294967296*V)) / p) 4294967296;have h2:(x+4294967296*(y+4294967296*V)) / p / 4294967296=(y+4294967296*V) / p:=by
  rw[Q01,Ql2 p,<-Q01]
  congr 1
  omega
 have h3:(x+4294967296*(y+4294967296*V)) / p=(x+4294967296*y) / p+4294967296*(q*V):=by
  have e:x+4294967296*(y+4294967296*V)=(x+4294967296*y)+p*(4294967296*(q*V)):=by
   have:4294967296*(4294967296*V)=p*(4294967296*(q*V)):=by rw[<-hq];grind
   omega
  rw[e,X32 _ _ hp]
 have h4:(x+4294967296*(y+4294967296*V)) / p % 4294967296=(x+4294967296*y) / p % 4294967296:=by rw[h3,Nat.add_mul_mod_self_left]
 rw[h2,h4]at h1;exact h1.symm
def riB:aG:=Cm.body.r.r.l.r.bl.lp
def UG (a o:List Nat)(k i j:Nat)(t:FV):St:=(st0 [.d (LD a),dI k,.u,eB j,dI i,t] (eD j (LL o)))
theorem QU (a o:List Nat)(k i j:Nat)(hi:¬ i<a.length):EX E0 60 riB (UG a o k i j .u)=some (.exit 0,UG a o k i j (dB false)):=by
 have hla:(LL a).length=a.length:=by simp[LL]
 unfold UG;simp only[LD];generalize LL a=xs,eB j=ov,eD j (LL o)=oh at*;simp[riB,f268,hla,hi]
theorem JB (a o:List Nat)(k z s i j:Nat)(hk:k=32*z+s)(hs:s<32)(hz:z<=100000000)(hi:i<a.length)(la:a.length<=100000000)(ha:cu a)(ho:o.length=j)(hj:j<=100000000) :
  EX E0 80 riB (UG a o k i j .u)=some (.norm,UG a (o++[riD a s i]) k (i+1) (j+1) .u):=by
 have hla:(LL a).length=a.length:=by simp[LL]
 have h1:=fun m=>kJ m a ae (i+1) ae ha
 have h2:=fun m=>kJ m a ae i ae ha
 have xa:=dx ha i;have xb:=dx ha (i+1);have hk1:((i+1:Nat):Int)=(i:Int)+1:=ae;have aS:ak .i64 ((i:Int)+1)=(i:Int)+1:=wrap_i64 ae;simp only[LD,hk1]at h1 h2;unfold riD;generalize bI a i=x,bI a (i+1)=y at*;have w1:=Uz xb;have w2:=Ch xb xa;obtain⟨P,hP⟩:∃ P:Nat,(P:Int)=(y:Int)*4294967296:=⟨y*4294967296,ae⟩
 obtain⟨T,hT⟩:∃ T:Nat,T=x+4294967296*y:=⟨_,rfl⟩
 have hT2:(y:Int)*4294967296+(x:Int)=(T:Int):=ae;rw[hT2,<-hP]at w2;rw[<-hP]at w1;rw[<-hT];have w3:Int.fdiv (T:Int) (2 ^ (min s 64))=((T / 2 ^ s:Nat):Int):=by
  rw[show min s 64=s by omega,Qn0 _ (Int.pow_nonneg ae),X11];simp
 have w4:Int.tmod (k:Int) 32=(s:Int):=by rw[Xg1 ae];omega
 have hTq:T / 2 ^ s<18446744073709551616:=Xd2 (Xp0 _ _) ae;generalize T / 2 ^ s=Q at*;have w5:ak .u32 (Q:Int)=((Q % 4294967296:Nat):Int):=by rw[dQ];omega
 have hs0:¬ ((s:Int)<0):=ae;have TR:LL (o++[Q % 4294967296])=LL o++[.v (.int .u32 ((Q % 4294967296:Nat):Int))]:=by simp[LL]
 have hol:(LL o).length=j:=by simp[LL,ho]
 have hv1:eB (j+1)=.ls (.loc 0) j 1 0 (j+1):=by simp[eB]
 have EY:∀ l,eD (j+1) l=[.row j 1 l]:=by intro l;simp[eD]
 have hm1:(j+1)*4<=most:=by simp[most];omega
 have hm2:j+1<=most:=by simp[most];omega
 have htk:(LL o).take j=LL o:=Qe0 ae;clear hP hT hT2 hTq;unfold UG;rw[TR,hv1,EY,hk1];generalize Q % 4294967296=lo at*
 by_cases hj0:j=0
 ·have hv:eB j=.d (.n 1):=by simp[eB,hj0]
  have hh:∀ l,eD j l=[]:=by intro l;simp[eD,hj0]
  have hLo:LL o=[]:=Qo2 ae;have hvk:FV.ls (.loc 0) 0 1 0 1=FV.ls (.loc 0) j 1 0 (j+1):=by rw[hj0]
  have hhk:∀ l,ai.row 0 1 l=ai.row j 1 l:=by intro l;rw[hj0]
  rw[hv,hh,hLo,<-hvk,<-hhk];simp only[LD];generalize LL a=xs at*;simp[IntKind.bits,riB,f268,hla,hi,h1,h2,aS,hs0,w1,w2,w3,w4,w5,most]
 ·have hv:eB j=.ls (.loc 0) (j-1) 1 0 j:=by simp[eB,hj0]
  have hh:∀ l,eD j l=[.row (j-1) 1 l]:=by intro l;simp[eD,hj0]
  have hk2:j-1+1=j:=ae;rw[hv,hh];simp only[LD];generalize LL a=xs,LL o=es at*;simp[IntKind.bits,riB,f268,hla,hi,h1,h2,aS,hs0,w1,w2,w3,w4,w5,hm1,hm2,hol,htk,hk2]
theorem MM (a:List Nat)(k z s:Nat)(hk:k=32*z+s)(hs:s<32)(hz:z<=100000000)(la:a.length<=100000000)(ha:cu a) :
  ∃ r,Ex E0 (.loop riB) (UG a [] k z 0 .u) r/\∃ o i,cu o/\o.length<=a.length/\val o=val (a.drop z) / 2 ^ s/\r=(.exit 0,UG a o k i o.length (dB false)):=by
 refine Ex.inv (S:=fun t:List Nat × Nat=>UG a t.1 k (z+t.2) t.2 .u) (fun t=>a.length-t.2)
  (fun t=>t.1.length=t.2/\(t.2=0\/z+t.2<=a.length)/\cu t.1/\val t.1+4294967296 ^ t.2*(val (a.drop (z+t.2)) / 2 ^ s)=val (a.drop z) / 2 ^ s) _ ?_ ([],0) ?_
 ·rintro⟨o,j⟩ ⟨h1,h2,h3,h4⟩;simp only at h1 h2 h3 h4
  by_cases hi:z+j<a.length
  ·have hr:=JB a o k z s (z+j) j hk hs hz hi la ha h1 ae;refine .inl ⟨(o++[riD a s (z+j)],j+1),?_,by simp only;omega,?_,?_,?_,?_⟩
   ·simp only;rw[<-Qw1];exact Ex.of hr
   ·simp[h1]
   ·simp only;omega
   ·exact iQ h3 (fun y hy=>by simp at hy;subst hy;exact Qw0 _ ae)
   ·simp only;rw[val_append,h1,<-h4,<-Qw1,jr a (z+j),jr a (z+j+1),JA hs (dx ha _),Qn2];have hv:val [riD a s (z+j)]=riD a s (z+j):=by simp[val]
    rw[hv];unfold riD;rw[Xe2,Q81];omega
  ·rw[iT ae,Nat.zero_div,Nat.mul_zero,Q90]at h4;refine .inr ⟨_,Ex.of (QU a o k (z+j) j hi),aC,o,z+j,h3,ae,h4,by rw[h1]⟩
 ·refine⟨rfl,.inl rfl,?_,by simp[val]⟩;intro x hx;cases hx
theorem JC:∀ (a:List Nat) (z:Nat),cu a->val (a.drop z)=val a / 4294967296 ^ z
 | a,0,_=>by simp
 | [],z+1,_=>by simp[val]
 | x::r,z+1,h=>by
  have hx:=h x (Qj2 ..);have e:(x+4294967296*val r) / (4294967296 ^ z*4294967296)=(x+4294967296*val r) / 4294967296 / 4294967296 ^ z:=by
   rw[Ql2 (4294967296 ^ z) 4294967296,Q01]
  have e2:(x+4294967296*val r) / 4294967296=val r:=ae;rw[List.drop_succ_cons,JC r z (fun y hy=>h y (Qg2 _ hy)),val,Qn2,e,e2]
theorem UH (a:List Nat)(k:Nat)(hk:k<=3200000000)(la:a.length<=100000000)(ha:cu a) :
  Ca E0 adR [.d (LD a),dI k] (.d (LD (enc (val a / 2 ^ k))),none):=by
 obtain⟨z,s,hzs,hs⟩:∃ z s,k=32*z+s/\s<32:=⟨k / 32,k % 32,ae,ae⟩
 have hz:z<=100000000:=ae;obtain⟨r,hl,o,i,ho,hol,hv,rfl⟩:=MM a k z s hzs hs hz la ha;have hres:val o=val a / 2 ^ k:=by
  rw[hv,JC a z ha,Q01,hzs,Qy2,X62]
 obtain⟨n0,hc⟩:=(iP o ae).get;rw[dm ho,hres]at hc;have hlo:(LL o).length=o.length:=by simp[LL]
 generalize enc (val a / 2 ^ k)=res at*;refine Ca.body (o:=.ret) (st1:=(st0 (.u::.u::.d (LD res)::u3K) (if o.length=0 then [] else [.iA (o.length-1) 1 (LL o)]))) rfl (aO 268 f268:E0.fn _=_) rfl ?_ (by intro id h;cases h) ?_
 ·show Ex E0 (.seq Cm.body.l (.seq Cm.body.r.l (.seq (.seq Cm.body.r.r.l.l (.block 0 (.loop riB))) Cm.body.r.r.r))) _ _;refine Ex.seq (st1:=(st0 (.d (LD a)::dI k::rJ) [])) (Ex.of (n:=40) ?_)
   (Ex.seq (st1:=(st0 [.d (LD a),dI k,.u,.d (.n 1),.u,.u] [])) (Ex.of (n:=40) ?_)
   (Ex.seq (Ex.seq (Ex.of (n:=40) ?_) hl.block) (Ex.of (n:=n0+40) ?_)))
  ·simp[f268]
  ·simp[f268]
  ·have v1:Int.tdiv (k:Int) 32=(z:Int):=by rw[Q82 ae];omega
   have v2:ak .i64 (z:Int)=(z:Int):=wrap_i64 ae;unfold UG;simp[f268,v1,v2,eB,eD]
  ·unfold UG;simp only[LD]at hc ⊢
   by_cases hk0:o.length=0
   ·have hLo:LL o=[]:=Qo2 ae;have hv1:eB o.length=.d (.n 1):=by simp[eB,hk0]
    have EY:∀ l,eD o.length l=[]:=by intro l;simp[eD,hk0]
    rw[if_pos hk0,hv1,EY];rw[hLo]at hc;clear hl;simp[f268,hc]
   ·have htk:(LL o).take o.length=LL o:=Qe0 ae;have hv1:eB o.length=.ls (.loc 0) (o.length-1) 1 0 o.length:=by simp[eB,hk0]
    have EY:∀ l,eD o.length l=[.row (o.length-1) 1 l]:=by intro l;simp[eD,hk0]
    rw[if_neg hk0,hv1,EY];clear hl;generalize LL o=es,o.length=m at*;simp[ai.view,f268,hlo,htk,hc]
 ·simp[f268,LD]
set_option maxRecDepth 100000
abbrev adU:Nat:=303
abbrev ag':Nat:=287
abbrev amc:bM:=f287
abbrev ZR:Nat:=266
abbrev ajy:bM:=f266
def gK (x:Nat):Nat:=if x=0 then 0 else Nat.log2 x+1
def ql:ByteArray:=⟨#[0,1,2,2,3,3,3,3,4,4,4,4,4,4,4,4,5,5,5,5,5,5,5,5,5,5,5,5,5,5,5,5,6,6,6,6,6,6,6,6,6,6,6,6,6,6,6,6,6,6,6,6,6,6,6,6,6,6,6,6,6,6,6,6,7,7,7,7,7,7,7,7,7,7,7,7,7,7,7,7,7,7,7,7,7,7,7,7,7,7,7,7,7,7,7,7,7,7,7,7,7,7,7,7,7,7,7,7,7,7,7,7,7,7,7,7,7,7,7,7,7,7,7,7,7,7,7,7,8,8,8,8,8,8,8,8,8,8,8,8,8,8,8,8,8,8,8,8,8,8,8,8,8,8,8,8,8,8,8,8,8,8,8,8,8,8,8,8,8,8,8,8,8,8,8,8,8,8,8,8,8,8,8,8,8,8,8,8,8,8,8,8,8,8,8,8,8,8,8,8,8,8,8,8,8,8,8,8,8,8,8,8,8,8,8,8,8,8,8,8,8,8,8,8,8,8,8,8,8,8,8,8,8,8,8,8,8,8,8,8,8,8,8,8,8,8,8,8,8,8,8,8,8,8,8,8]⟩
def JD (t:ByteArray):bM:={np:=1,nv:=4,ref:=false,res:=[.var 1],body:=(.seq (.region [⟨false,none,.Bw (.c (vI 0))⟩] [(1,0)] []) (.seq (.seq (.region [⟨false,none,.Bw (.var 0)⟩,⟨false,none,.bin .geq (.loc 0) (.c (.v (.int .u32 65536)))⟩] [(2,1)] []) (.cond (.var 2) (.seq (.seq (.region [⟨false,none,.Bw (.var 0)⟩,⟨false,none,.bin .shr (.loc 0) (.c (.v (.int .u64 16)))⟩,⟨false,none,.Bw (.loc 1)⟩] [(0,2)] []) (.kill [1,2])) (.region [⟨false,none,.Bw (.c (vI 16))⟩] [(1,0)] [])) .skip)) (.seq (.seq (.seq (.region [⟨false,none,.Bw (.var 0)⟩,⟨false,none,.bin .geq (.loc 0) (.c (.v (.int .u32 256)))⟩] [(3,1)] []) (.kill [2])) (.cond (.var 3) (.seq (.seq (.region [⟨false,none,.Bw (.var 0)⟩,⟨false,none,.bin .shr (.loc 0) (.c (.v (.int .u64 8)))⟩,⟨false,none,.Bw (.loc 1)⟩] [(0,2)] []) (.kill [3])) (.region [⟨false,none,.Bw (.var 1)⟩,⟨false,none,.bin .add (.loc 0) (.c (vI 8))⟩,⟨false,none,.Bw (.loc 1)⟩] [(1,2)] [])) .skip)) (.seq (.seq (.region [⟨false,none,.Bw (.var 1)⟩,⟨false,none,.Bw (.var 0)⟩,⟨false,none,.conv .u8 (.loc 1)⟩,⟨false,none,.vV (.c (.v (.string t))) (.loc 2)⟩,⟨false,none,.conv .i64 (.loc 3)⟩,⟨false,none,.bin .add (.loc 0) (.loc 4)⟩,⟨false,none,.Bw (.loc 5)⟩] [(1,6)] []) (.kill [0,3])) .ret))))}
theorem ZT:f303=JD ql:=rfl
theorem ZU:((List.range 256).all fun i=>match ql[i]? with|some b=>Nat.beq b.toNat (gK i)|none=>false)=true:=by kernel_rfl
theorem ZV {i:Nat}(h:i<256):∃ b:UInt8,ql[i]?=some b/\b.toNat=gK i:=by
 have:=adV ZU h;cases hb:ql[i]? with
 | none=>rw[hb]at this;cases this
 | some b=>rw[hb]at this;exact⟨b,rfl,Qm2 this⟩
theorem vW {x s:Nat}(h:2 ^ s<=x):gK x=gK (x / 2 ^ s)+s:=by
 have hp:0<2 ^ s:=Qs0 ae;have h1:0<x / 2 ^ s:=Xz0 h hp;unfold gK;rw[if_neg ae,if_neg ae];have h2:Nat.log2 x=Nat.log2 (x / 2 ^ s)+s:=by
  rw[Nat.log2_eq_iff ae];have a1:=Nat.log2_self_le (n:=x / 2 ^ s) ae;have a2:=Nat.lt_log2_self (n:=x / 2 ^ s);constructor
  ·rw[Qy2];exact Qd1 (Qf0 _ a1) (X60 x (2 ^ s))
  ·rw[show Nat.log2 (x / 2 ^ s)+s+1=(Nat.log2 (x / 2 ^ s)+1)+s by omega,Qy2];exact(Qv0 hp).1 a2
 omega
theorem FD {E:Env}{st:St}{rec:Nat->List FV->List ai->bJ}{env:List FV}{draw:Bool}{x i:Arg}:RK E rec draw st env (.vV x i)=runK E rec draw st env (.vV x i):=dn ..
theorem wrap_u8 {z:Int}(h:0<=z/\z<256):ak .u8 z=z:=by
 rw[dh];simp only[IntKind.wrap,IntKind.bits,IntKind.signed];simp;omega
theorem Bz {x:Nat}(h:x<4294967296):gK x<=32:=by
 unfold gK;split
 ·omega
 ·have:=(Nat.log2_lt (n:=x) (k:=32) ae).2 ae;omega
theorem QV (n x:Nat)(hx:x<4294967296):CL E0 (n+40) adU [.d (.v (.int .u32 x))] []=some (dI (gK x),none):=by
 rw[aB rfl ((aO 303 f303:E0.fn _=_).trans (congrArg some ZT)) rfl];have fin:∀ (y m:Nat),y<256->m<=24->gK x=gK y+m->∃ b:UInt8,ql[y]?=some b/\ak .u8 (y:Int)=(y:Int)/\ak .i64 ((b.toNat:Nat):Int)=((b.toNat:Nat):Int) /\
   ak .i64 ((m:Int)+((b.toNat:Nat):Int))=(gK x:Int):=by
  intro y m hy hm he;obtain⟨b,h1,h2⟩:=ZV hy;have hb:=b.toNat_lt;exact⟨b,h1,wrap_u8 ae,wrap_i64 ae,by rw[wrap_i64 ae];omega⟩
 by_cases hA:65536<=x
 ·have hA':(65536:Int)<=(x:Int):=ae;have w1:Int.fdiv (x:Int) 65536=((x / 65536:Nat):Int):=by rw[Qn0 _ ae];omega
  have e1:gK x=gK (x / 65536)+16:=vW (s:=16) ae;have hx1:x / 65536<65536:=ae;generalize x / 65536=x1 at*
  by_cases hB:256<=x1
  ·have hB':(256:Int)<=(x1:Int):=ae;have w2:Int.fdiv (x1:Int) 256=((x1 / 256:Nat):Int):=by rw[Qn0 _ ae];omega
   have e2:gK x1=gK (x1 / 256)+8:=vW (s:=8) ae;have hx2:x1 / 256<256:=ae;generalize x1 / 256=x2 at*;obtain⟨b,f1,f2,f3,f4⟩:=fin x2 24 hx2 ae ae;have w3:ak .i64 24=24:=wrap_i64 ae;have hp:(0:Int)<=(x2:Int):=ae;generalize ql=tb at*;simp[IntKind.bits,JD,hA',hB',w1,w2,w3,f1,f2,f3,hp];simpa using f4
  ·have hB':¬ (256:Int)<=(x1:Int):=ae;obtain⟨b,f1,f2,f3,f4⟩:=fin x1 16 ae ae ae;have hp:(0:Int)<=(x1:Int):=ae;generalize ql=tb at*;simp[IntKind.bits,JD,hA',hB',w1,f1,f2,f3,hp];simpa using f4
 ·have hA':¬ (65536:Int)<=(x:Int):=ae
  by_cases hB:256<=x
  ·have hB':(256:Int)<=(x:Int):=ae;have w2:Int.fdiv (x:Int) 256=((x / 256:Nat):Int):=by rw[Qn0 _ ae];omega
   have e2:gK x=gK (x / 256)+8:=vW (s:=8) ae;have hx2:x / 256<256:=ae;generalize x / 256=x2 at*;obtain⟨b,f1,f2,f3,f4⟩:=fin x2 8 hx2 ae ae;have w3:ak .i64 8=8:=wrap_i64 ae;have hp:(0:Int)<=(x2:Int):=ae;generalize ql=tb at*;simp[IntKind.bits,JD,hA',hB',w2,w3,f1,f2,f3,hp];simpa using f4
  ·have hB':¬ (256:Int)<=(x:Int):=ae;obtain⟨b,f1,f2,f3,f4⟩:=fin x 0 ae ae ae;have hp:(0:Int)<=(x:Int):=ae;generalize ql=tb at*;simp[JD,hA',hB',f1,f2,f3,hp];simpa[f3] using f4
theorem UI (n x:Nat)(hx:x<4294967296):CL E0 (n+80) ag' [.d (.v (.int .u32 x))] []=some (dI ((32-gK x:Nat):Int),none):=by
 have t:=fun m=>QV m x hx
 have hb:=Bz hx;have w:ak .i64 (32-(gK x:Int))=((32-gK x:Nat):Int):=by rw[wrap_i64 ae];omega
 rw[aB rfl (aO 287 f287:E0.fn _=_) rfl];generalize gK x=bl at*;generalize 32-bl=r at*;simp[f287,t,w]
theorem MN (n:Nat)(b:List Nat)(x:Nat)(hx:x<4294967296)(hl:b.length<=100000000) :
  CL E0 (n+120) ZR [.d (LD (b++[x]))] []=some (dI ((32*b.length+gK x:Nat):Int),none):=by
 have t:=fun m=>UI m x hx
 have hb:=Bz hx;have hlen:(LL (b++[x])).length=b.length+1:=by simp[LL]
 have hget:(LL (b++[x]))[b.length]?=some (.v (.int .u32 (x:Int))):=by simp[LL]
 have hb0:(((b.length:Int)+1)==0)=false:=by simp;omega
 have w1:ak .i64 (b.length:Int)=(b.length:Int):=wrap_i64 ae;have w2:ak .i64 (32*((b.length:Int)+1))=32*((b.length:Int)+1):=wrap_i64 ae;have w3:ak .i64 (32*((b.length:Int)+1)-((32-gK x:Nat):Int))=((32*b.length+gK x:Nat):Int):=by rw[wrap_i64 ae];omega
 rw[aB rfl (aO 266 f266:E0.fn _=_) rfl];generalize 32*b.length+gK x=res,32-gK x=r at*;simp only[LD];generalize LL (b++[x])=es at*;have Cc:=idx hget;generalize b.length=m at*;simp[f266,hlen,Cc,hb0,w1,w2,w3,t]
end Fi.S
