import Derived.Test.YtgngjdakilfmoaaGreatDoorSEnv
set_option linter.unusedVariables false
set_option linter.unusedSimpArgs false
noncomputable section
namespace Fi.S
open Go Fi
set_option maxHeartbeats 8000000
attribute [simp] st0 vI vB dI dB rL aG u3K wW n_ uV rX zW OU rT GX EY EZ Ma TS Ze agr ags akE amH amI amJ Zf ac7 Zg Zh ac8 Zi TT Qn TU Qo ac9 Zj ac_ Zk ac' ada TV agt adb ade Zl TW TY TZ T9 T_ Ua Ub adf adg Zm Zn adh Uc agu adi adj Zo Ud Ue Uf Ug Qp adk Uh Zp Zq adl Zr dE Zt Fy Qq mh runK BL mi FV.target dw fF gz eT D.cells FV.cells FV.one D.one uW St.push St.heap St.bq BM splice rY iI agv agw agx agy agz ajx agA agB agC agD agE agF agG agH agI agJ unV jC mZ lD finish mo GY gN leaves yL leave1 jN Qr BN fD kJ oneOf aK FV.rows FV.om D.norm D.di scalar D.isV FV.shift FV.gD ah.shift jP m_ elems aF.l aF.r aF.bl aF.lp
abbrev nAt:Nat:=225
abbrev fAt:bO:=f225
abbrev adm:Nat:=231
abbrev Mc:bO:=f231
abbrev Zu:Nat:=180
abbrev ajd:bO:=f180
theorem kK (n:Nat)(l:List Nat)(hl:l.length<=1000000000)(i:Nat)(hi:i<=1000000000)(hb:∀ x ∈ l,x<4294967296) :
  CL E0 (n+30) nAt [.d (LD l),dI i] []=some (.d (.v (.int .u64 (bH l i))),none):=by
 rw[aA rfl (aO 225 f225:E0.fn _=_) rfl]
 by_cases h:i<l.length
 ·have h1:((i:Int)<(l.length:Int)):=ae;have hx:l[i]?=some l[i]:=Qa1 h;have hw:ak .u64 (l[i]:Int)=(l[i]:Int):=wrap_u64 (by have:=hb l[i] (Qi0 h);omega);have ha:bH l i=l[i]:=by simp[bH,hx]
  simp[f225,LD,LL,h1,hx,hw,ha]
 ·have h1:¬ ((i:Int)<(l.length:Int)):=ae;have ha:bH l i=0:=by simp[bH,Qp1 (Nat.le_of_not_lt h)]
  simp[f225,LD,LL,h1,ha]
def YV (l:List Nat):St:=(st0 [.d (LD l),.u,.u] [])
def clR (l:List Nat):Out × St:=(.exit 0,(st0 [.d (LD (trim l)),.u,dB false] []))
def clB:aF:=match Mc.body with
 | .seq _ (.seq (.block _ (.loop b)) _)=>b
 | _=>.skip
theorem GZ (n:Nat):EX E0 (n+40) clB (YV [])=some (clR []):=by
 simp[clB,YV,clR,f231,LD,LL,trim]
theorem Ji (n:Nat)(b:List Nat)(x:Nat)(hl:b.length<=1000000000) :
  EX E0 (n+40) clB (YV (b++[x]))=if x=0 then some (.norm,YV b) else some (clR (b++[x])):=by
 have hlen:(LL (b++[x])).length=b.length+1:=by simp[LL]
 have hget:(LL (b++[x]))[b.length]?=some (.v (.int .u32 (x:Int))):=by simp[LL]
 have htake:(LL (b++[x])).take b.length=LL b:=by simp[LL]
 have hpos:(0:Int)<(b.length:Int)+1:=ae;have hw:ak .i64 (b.length:Int)=(b.length:Int):=wrap_i64 ae
 by_cases h:x=0
 ·subst h;unfold YV LD;generalize LL (b++[0])=es at hlen hget htake;have BO:=idx hget;have hh:((b.length:Int)<=(b.length:Int)+1):=ae;simp[clB,f231,hlen,hget,BO,htake,hpos,hw,hh,kL,G5]
 ·have hx:((x:Int)==0)=false:=by simpa using h
  rw[if_neg h];unfold clR;rw[uq b x h];unfold YV LD;generalize LL (b++[x])=es at hlen hget htake;have BO:=idx hget;simp[clB,f231,hlen,hget,BO,hpos,hw,hx]
theorem Md (l:List Nat)(hl:l.length<=1000000000):Ex E0 (.loop clB) (YV l) (clR l):=by
 have:=Ex.while (E:=E0) (b:=clB) (fun a:{l:List Nat // l.length<=1000000000}=>YV a.1) (fun a=>a.1.length) (fun a=>clR a.1) ?_ ⟨l,hl⟩
 ·exact this
 ·rintro⟨l,hl⟩;rcases Q92 l with rfl|⟨b,x,rfl⟩
  ·exact .inr ⟨Ex.of (GZ 0),by intro h;cases h⟩
  ·have hb:b.length<=1000000000:=by simp at hl;omega
   have hr:=Ji 0 b x hb;rw[<-Q50]at hr
   by_cases h:x=0
   ·subst h;rw[if_pos rfl]at hr;refine .inl ⟨⟨b,hb⟩,Ex.of hr,aC,?_⟩;simp only[clR,Q50,uu]
   ·rw[if_neg h]at hr;exact .inr ⟨Ex.of hr,by intro h;cases h⟩
def clA:aF:=match Mc.body with
 | .seq a _=>a
 | _=>.skip
def clC:aF:=match Mc.body with
 | .seq _ (.seq _ c)=>c
 | _=>.skip
theorem iL (l:List Nat)(hl:l.length<=1000000000):Ca E0 adm [.d (LD l)] (.d (LD (trim l)),none):=by
 refine Ca.body (o:=.ret) (st1:=(st0 [.u,.d (LD (trim l)),.u] [])) rfl (k231:E0.fn _=_) rfl ?_ (by intro id h;cases h) ?_
 ·show Ex E0 (.seq clA (.seq (.block 0 (.loop clB)) clC)) _ _;refine Ex.seq (st1:=YV l) (Ex.of (n:=40) ?_) (Ex.seq ((Md l hl).block) (Ex.of (n:=40) ?_))
  ·simp[clA,YV,f231]
  ·simp[clC,f231]
 ·simp[f231,LD]
abbrev ado:Nat:=181
abbrev Zv:bO:=f181
def G6 (a b:List Nat):Nat->Int
 | 0=>0
 | k+1=>if bH a k=bH b k then G6 a b k else if bH a k<bH b k then -1 else 1
def cmS (a b:List Nat)(i:Int):St:=(st0 (.d (LD a)::.d (LD b)::.u::dI i::wW) [])
def Ui (a b:List Nat):Nat->Out × St
 | 0=>(.exit 0,(st0 [.d (LD a),.d (LD b),.u,.d (.v (.int .i64 (-1))),.u,.u,.d (.v (.bool false)),.u] []))
 | k+1=>if bH a k=bH b k then Ui a b k else(.ret,(st0 [.u,.u,.d (.v (.int .i64 (if bH a k<bH b k then -1 else 1))),.u,.u,.u,.u,.u] []))
def Zw:aF:=match Zv.body with
 | .seq _ (.seq (.seq _ (.block _ (.loop b))) _)=>b
 | _=>.skip
def cmA:aF:=match Zv.body with
 | .seq a _=>a
 | _=>.skip
def Zx:aF:=match Zv.body with
 | .seq _ (.seq (.seq a (.block _ (.loop _))) _)=>a
 | _=>.skip
def cmC:aF:=match Zv.body with
 | .seq _ (.seq (.seq _ (.block _ (.loop _))) c)=>c
 | _=>.skip
theorem dx {l:List Nat}(h:bY l)(i:Nat):bH l i<4294967296:=by
 unfold bH;cases hx:l[i]? with
 | none=>simp
 | some x=>exact h x (Qa2 hx)
theorem Me (n:Nat)(a b:List Nat):EX E0 (n+60) Zw (cmS a b (-1))=some (Ui a b 0):=by
 simp[Zw,cmS,Ui,f181]
theorem Qt (n:Nat)(a b:List Nat)(k:Nat)(hk:k<=1000000000)(la:a.length<=1000000000)(lb:b.length<=1000000000)(ha:bY a)(hb:bY b) :
  EX E0 (n+60) Zw (cmS a b k)=if bH a k=bH b k then some (.norm,cmS a b ((k:Int)-1)) else some (Ui a b (k+1)):=by
 have h1:=fun m=>kK m a la k hk ha
 have h2:=fun m=>kK m b lb k hk hb
 have xa:=dx ha k;have xb:=dx hb k;have hdec:ak .i64 ((k:Int)-1)=(k:Int)-1:=wrap_i64 ae;have hk0:(0:Int)<=(k:Int):=ae;unfold Ui cmS;simp only[LD]at h1 h2 ⊢;generalize bH a k=x,bH b k=y at*
 by_cases hxy:x=y
 ·subst hxy;simp[Zw,f181,h1,h2,hdec,hk0]
 ·have hne:((x:Int) != (y:Int))=true:=by simp;omega
  rw[if_neg hxy,if_neg hxy]
  by_cases hlt:x<y
  ·have hs:ak .u64 ((x:Int)-(y:Int))=18446744073709551616+(x:Int)-(y:Int):=by rw[gP];omega
   have hd:Int.fdiv (18446744073709551616+(x:Int)-(y:Int)) 9223372036854775808=1:=by rw[Ql2 _ ae];omega
   have w1:ak .i64 1=1:=wrap_i64 ae;have w2:ak .i64 2=2:=wrap_i64 ae;have w3:ak .i64 (-1)=-1:=wrap_i64 ae;simp[IntKind.bits,Zw,f181,h1,h2,hk0,hne,hs,hd,hlt,w1,w2,w3]
  ·have hs:ak .u64 ((x:Int)-(y:Int))=(x:Int)-(y:Int):=wrap_u64 ae;have hd:Int.fdiv ((x:Int)-(y:Int)) 9223372036854775808=0:=by rw[Ql2 _ ae];omega
   have w1:ak .i64 1=1:=wrap_i64 ae;have w0:ak .i64 0=0:=wrap_i64 ae;simp[IntKind.bits,Zw,f181,h1,h2,hk0,hne,hs,hd,hlt,w1,w0]
theorem yM (a b:List Nat):∀ k,(Ui a b k=(.exit 0,(st0 [.d (LD a),.d (LD b),.u,dI (-1),.u,.u,dB false,.u] []))/\G6 a b k=0) \/
  Ui a b k=(.ret,(st0 (.u::.u::dI (G6 a b k)::n_) []))
 | 0=>.inl ⟨rfl,rfl⟩
 | k+1=>by
  unfold Ui G6
  by_cases h:bH a k=bH b k
  ·rw[if_pos h,if_pos h];exact yM a b k
  ·rw[if_neg h,if_neg h];exact .inr rfl
theorem adp (a b:List Nat)(k:Nat):(Ui a b k).1≠.norm:=by
 rcases yM a b k with ⟨h,_⟩|h<;>rw[h]<;>intro h<;>cases h
theorem Jj (a b:List Nat)(la:a.length<=1000000000)(lb:b.length<=1000000000)(ha:bY a)(hb:bY b):∀ (k:Nat),k<=1000000001->Ex E0 (.loop Zw) (cmS a b ((k:Int)-1)) (Ui a b k)
 | 0,_=>Ex.out (Ex.of (n:=60) (Me 0 a b)) (by intro h;cases h)
 | k+1,hk=>by
  have hr:=Qt 0 a b k ae la lb ha hb;rw[show(((k+1:Nat):Int)-1)=(k:Int) by omega]
  by_cases h:bH a k=bH b k
  ·rw[if_pos h]at hr;have:=Jj a b la lb ha hb k ae;unfold Ui;rw[if_pos h];exact Ex.next (Ex.of hr) this
  ·rw[if_neg h]at hr;exact Ex.leave (Ex.of hr) (adp a b (k+1))
theorem Zy (a b:List Nat)(la:a.length<=1000000000)(lb:b.length<=1000000000)(ha:bY a)(hb:bY b) :
  Ca E0 ado [.d (LD a),.d (LD b)] (dI (G6 a b (max a.length b.length)),none):=by
 have hl:=Jj a b la lb ha hb (max a.length b.length) ae;have hA:Ex E0 cmA (st0 (.d (LD a)::.d (LD b)::uV) []) (.norm,(st0 (.d (LD a)::.d (LD b)::uV) [])) :=
  Ex.of (n:=40) (by simp[cmA,f181])
 have hmax:(if a.length<b.length then(b.length:Int) else(a.length:Int))=((max a.length b.length:Nat):Int):=by split<;>omega
 have hw:ak .i64 (((max a.length b.length:Nat):Int)-1)=((max a.length b.length:Nat):Int)-1:=wrap_i64 ae;have vN:(LL a).length=a.length:=by simp[LL]
 have ES:(LL b).length=b.length:=by simp[LL]
 have hA2:Ex E0 Zx (st0 (.d (LD a)::.d (LD b)::uV) []) (.norm,cmS a b (((max a.length b.length:Nat):Int)-1)):=by
  refine Ex.of (n:=40) ?_;unfold cmS LD;generalize max a.length b.length=mm at*;simp[Zx,f181,vN,ES,hmax,hw]
 rcases yM a b (max a.length b.length) with ⟨h,h0⟩|h
 ·rw[h]at hl;rw[h0];refine Ca.body (o:=.ret) (st1:=(st0 (.u::.u::dI 0::n_) [])) rfl (k181:E0.fn _=_) rfl ?_ (by intro id h;cases h) ?_
  ·show Ex E0 (.seq cmA (.seq (.seq Zx (.block 0 (.loop Zw))) cmC)) _ _;refine hA.seq ((hA2.seq hl.block).seq (Ex.of (n:=40) ?_));simp[cmC,f181]
  ·simp[f181]
 ·rw[h]at hl;refine Ca.body (o:=.ret) (st1:=(st0 (.u::.u::dI (G6 a b (max a.length b.length))::n_) [])) rfl (k181:E0.fn _=_) rfl ?_ (by intro id h;cases h) ?_
  ·show Ex E0 (.seq cmA (.seq (.seq Zx (.block 0 (.loop Zw))) cmC)) _ _;refine hA.seq (Ex.gp (hA2.seq hl.dR))
  ·simp[f181]
def d_ (x y:Nat):Int:=if x<y then -1 else if x=y then 0 else 1
theorem Jk {a b:List Nat}(ha:bY a)(hb:bY b):∀ k,G6 a b k=d_ (cu a k) (cu b k)
 | 0=>by simp[G6,d_,cu,val]
 | k+1=>by
  rw[G6,Jk ha hb k,eU,eU];have h1:=pE ha k;have h2:=pE hb k;unfold d_
  by_cases h:bH a k=bH b k
  ·rw[if_pos h,h];generalize 4294967296 ^ k*bH b k=p
   by_cases h3:cu a k<cu b k
   ·rw[if_pos h3,if_pos ae]
   ·by_cases h4:cu a k=cu b k
    ·rw[if_neg h3,if_pos h4,if_neg ae,if_pos ae]
    ·rw[if_neg h3,if_neg h4,if_neg ae,if_neg ae]
  ·rw[if_neg h]
   by_cases h3:bH a k<bH b k
   ·have:=jQ (vb:=cu b k) h1 h3;rw[if_pos h3];generalize 4294967296 ^ k*bH a k=p,4294967296 ^ k*bH b k=q at*;rw[if_pos this]
   ·have:=jQ (vb:=cu a k) h2 (show bH b k<bH a k by omega);rw[if_neg h3];generalize 4294967296 ^ k*bH a k=p,4294967296 ^ k*bH b k=q at*;rw[if_neg ae,if_neg ae]
theorem yN (a b:List Nat)(la:a.length<=1000000000)(lb:b.length<=1000000000)(ha:bY a)(hb:bY b) :
  Ca E0 ado [.d (LD a),.d (LD b)] (dI (d_ (val a) (val b)),none):=by
 have h:=Zy a b la lb ha hb;rw[Jk ha hb,gF ae,gF ae]at h;exact h
abbrev acp:Nat:=228
abbrev Fz:bO:=f228
def Zz:aF:=match Fz.body with
 | .seq _ (.seq _ (.seq _ (.seq (.seq _ (.block _ (.loop b))) _)))=>b
 | _=>.skip
def agK:aF:=match Fz.body with
 | .seq a _=>a
 | _=>.skip
def agL:aF:=match Fz.body with
 | .seq _ (.seq a _)=>a
 | _=>.skip
def agM:aF:=match Fz.body with
 | .seq _ (.seq _ (.seq a _))=>a
 | _=>.skip
def agN:aF:=match Fz.body with
 | .seq _ (.seq _ (.seq _ (.seq (.seq a (.block _ (.loop _))) _)))=>a
 | _=>.skip
def plC:aF:=match Fz.body with
 | .seq _ (.seq _ (.seq _ (.seq (.seq _ (.block _ (.loop _))) c)))=>c
 | _=>.skip
def eD (k:Nat):FV:=if k=0 then .d (.n 1) else .ls (.loc 0) (k-1) 1 0 k
def eF (k:Nat)(o:List D):List ah:=if k=0 then [] else [.row (k-1) 1 o]
def YW (a b o:List Nat)(k s:Nat)(t:FV):St:=(st0 [.d (LD a),.d (LD b),.u,eD k,.d (.v (.int .u64 s)),dI k,t] (eF k (LL o)))
theorem Mf (n:Nat)(a b o:List Nat)(k s:Nat)(hk:k<=1000000000)(la:a.length<=1000000000)(lb:b.length<=1000000000)(ha:bY a)(hb:bY b)(ho:o.length=k)(hs:s<4294967296) :
  EX E0 (n+60) Zz (YW a b o k s .u)=if k<max a.length b.length\/0<s then some (.norm,YW a b (o++[(s+(bH a k+bH b k)) % 4294967296]) (k+1) ((s+(bH a k+bH b k)) / 4294967296) .u)
   else some (.exit 0,YW a b o k s (dB false)):=by
 have h1:=fun m=>kK m a la k hk ha
 have h2:=fun m=>kK m b lb k hk hb
 have xa:=dx ha k;have xb:=dx hb k;have vN:(LL a).length=a.length:=by simp[LL]
 have ES:(LL b).length=b.length:=by simp[LL]
 have hmax:(if a.length<b.length then(b.length:Int) else(a.length:Int))=((max a.length b.length:Nat):Int):=by split<;>omega
 simp only[LD]at h1 h2;have aW:ak .i64 ((k:Int)+1)=(k:Int)+1:=wrap_i64 ae;generalize bH a k=x,bH b k=y at*;have w1:ak .u64 ((x:Int)+(y:Int))=(x:Int)+(y:Int):=wrap_u64 ae;have w2:ak .u64 ((s:Int)+((x:Int)+(y:Int)))=(s:Int)+((x:Int)+(y:Int)):=wrap_u64 ae;have w3:ak .u32 ((s:Int)+((x:Int)+(y:Int)))=((s:Int)+((x:Int)+(y:Int))) % 4294967296:=dU _;have w4:Int.fdiv ((s:Int)+((x:Int)+(y:Int))) 4294967296=((s:Int)+((x:Int)+(y:Int))) / 4294967296:=Ql2 _ ae;have Tv:LL (o++[(s+(x+y)) % 4294967296])=LL o++[.v (.int .u32 (((s:Int)+((x:Int)+(y:Int))) % 4294967296))]:=by simp[LL]
 have hol:(LL o).length=k:=by simp[LL,ho]
 have hv1:eD (k+1)=.ls (.loc 0) k 1 0 (k+1):=by simp[eD]
 have E5:∀ l,eF (k+1) l=[.row k 1 l]:=by intro l;simp[eF]
 have hm1:(k+1)*4<=most:=by simp[most];omega
 have hm2:k+1<=most:=by simp[most];omega
 have htk:(LL o).take k=LL o:=Qe1 ae;have hk1:((k+1:Nat):Int)=(k:Int)+1:=ae;have hs1:(((s+(x+y)) / 4294967296:Nat):Int)=((s:Int)+((x:Int)+(y:Int))) / 4294967296:=ae;unfold YW;rw[Tv,hv1,E5,hk1,hs1]
 by_cases hk0:k=0
 ·have hv:eD k=.d (.n 1):=by simp[eD,hk0]
  have hh:∀ l,eF k l=[]:=by intro l;simp[eF,hk0]
  have ho0:o=[]:=Qo1 ae;have hLo:LL o=[]:=by rw[ho0];rfl
  have hm3:1*4<=most:=by simp[most]
  have hm4:1<=most:=by simp[most]
  have hvk:FV.ls (.loc 0) 0 1 0 1=FV.ls (.loc 0) k 1 0 (k+1):=by rw[hk0]
  have hhk:∀ l,ah.row 0 1 l=ah.row k 1 l:=by intro l;rw[hk0]
  rw[hv,hh,hLo,<-hvk,<-hhk];generalize max a.length b.length=mm at*
  by_cases hc:k<mm
  ·rw[if_pos (.inl hc)];simp[IntKind.bits,Zz,f228,LD,vN,ES,hmax,hc,h1,h2,aW,w1,w2,w3,w4,hm4,most]
  ·by_cases hs0:0<s
   ·rw[if_pos (.inr hs0)];simp[IntKind.bits,Zz,f228,LD,vN,ES,hmax,hc,hs0,h1,h2,aW,w1,w2,w3,w4,hm4,most]
   ·rw[if_neg ae];simp[IntKind.bits,Zz,f228,LD,vN,ES,hmax,hc,hs0]
 ·have hv:eD k=.ls (.loc 0) (k-1) 1 0 k:=by simp[eD,hk0]
  have hh:∀ l,eF k l=[.row (k-1) 1 l]:=by intro l;simp[eF,hk0]
  have hk2:k-1+1=k:=ae;rw[hv,hh];generalize max a.length b.length=mm at*
  by_cases hc:k<mm
  ·rw[if_pos (.inl hc)];simp[IntKind.bits,Zz,f228,LD,vN,ES,hmax,hc,h1,h2,aW,w1,w2,w3,w4,hm1,hm2,hol,htk,hk2]
  ·by_cases hs0:0<s
   ·rw[if_pos (.inr hs0)];simp[IntKind.bits,Zz,f228,LD,vN,ES,hmax,hc,hs0,h1,h2,aW,w1,w2,w3,w4,hm1,hm2,hol,htk,hk2]
   ·rw[if_neg ae];simp[IntKind.bits,Zz,f228,LD,vN,ES,hmax,hc,hs0]
def plI (a b:List Nat)(t:List Nat × Nat × Nat):Prop :=
 t.1.length=t.2.1/\t.2.1<=max a.length b.length+1/\(t.2.1=max a.length b.length+1->t.2.2=0)/\t.2.2<4294967296/\bY t.1 /\
 val t.1+4294967296 ^ t.2.1*(t.2.2+val (a.drop t.2.1)+val (b.drop t.2.1))=val a+val b
theorem FB {P s x y va vb vo d c:Nat}(h:s+(x+y)=d+4294967296*c) :
  vo+P*d+P*4294967296*(c+va+vb)=vo+P*(s+(x+4294967296*va)+(y+4294967296*vb)):=by grind
theorem Qu (a b:List Nat)(la:a.length<=100000000)(lb:b.length<=100000000)(ha:bY a)(hb:bY b) :
  ∃ r,Ex E0 (.loop Zz) (YW a b [] 0 0 .u) r/\∃ o,bY o/\val o=val a+val b/\o.length<=max a.length b.length+1/\r=(.exit 0,YW a b o o.length 0 (dB false)):=by
 refine Ex.inv (S:=fun t:List Nat × Nat × Nat=>YW a b t.1 t.2.1 t.2.2 .u) (fun t=>max a.length b.length+2-t.2.1) (plI a b) _ ?_ ([],0,0) ?_
 ·rintro⟨o,k,s⟩ ⟨h1,h2,h3,h4,h5,h6⟩;simp only at h1 h2 h3 h4 h5 h6;have hr:=Mf 0 a b o k s ae ae ae ha hb h1 h4;have xa:=dx ha k;have xb:=dx hb k
  by_cases hc:k<max a.length b.length\/0<s
  ·rw[if_pos hc]at hr;have hk:k<max a.length b.length+1:=by
    rcases hc with hc|hc
    ·omega
    ·rcases Qg0 k (max a.length b.length+1) with h|h
     ·exact h
     ·have:=h3 ae;omega
   refine .inl ⟨(o++[(s+(bH a k+bH b k)) % 4294967296],k+1,(s+(bH a k+bH b k)) / 4294967296),Ex.of hr,by simp only;omega,?_,?_,?_,?_,?_,?_⟩
   ·simp[h1]
   ·simp only;omega
   ·intro he;simp only at he ⊢;have e1:bH a k=0:=by unfold bH;rw[Qp1 ae];rfl
    have e2:bH b k=0:=by unfold bH;rw[Qp1 ae];rfl
    rw[e1,e2];omega
   ·simp only;omega
   ·exact iM h5 (fun x hx=>by simp at hx;subst hx;exact Qu1 _ ae)
   ·simp only;rw[val_append,h1,Qn2,<-h6,jo a k,jo b k];have hv:val [(s+(bH a k+bH b k)) % 4294967296]=(s+(bH a k+bH b k)) % 4294967296:=by simp[val]
    rw[hv];exact FB ae
  ·rw[if_neg hc]at hr;refine .inr ⟨_,Ex.of hr,aC,o,h5,?_,ae,?_⟩
   ·rw[iN ae,iN ae]at h6;have:s=0:=ae;subst this;simpa using h6
   ·have:s=0:=ae;subst this;rw[h1]
 ·refine⟨rfl,aC,?_,aC,?_,?_⟩
  ·simp
  ·intro x hx;cases hx
  ·simp[val]
theorem ZA (a b:List Nat)(la:a.length<=100000000)(lb:b.length<=100000000)(ha:bY a)(hb:bY b) :
  Ca E0 acp [.d (LD a),.d (LD b)] (.d (LD (enc (val a+val b))),none):=by
 obtain⟨r,hl,o,ho,hv,hol,rfl⟩:=Qu a b la lb ha hb;obtain⟨n0,hc⟩:=(iL o ae).get;rw[dm ho,hv]at hc;have hlo:(LL o).length=o.length:=by simp[LL]
 generalize enc (val a+val b)=res at*;refine Ca.body (o:=.ret) (st1:=(st0 (.u::.u::.d (LD res)::wW) (if o.length=0 then [] else [.h_ (o.length-1) 1 (LL o)]))) rfl (aO 228 f228:E0.fn _=_) rfl ?_ (by intro id h;cases h) ?_
 ·show Ex E0 (.seq agK (.seq agL (.seq agM (.seq (.seq agN (.block 0 (.loop Zz))) plC)))) _ _;refine Ex.seq (st1:=(st0 (.d (LD a)::.d (LD b)::n_) [])) (Ex.of (n:=40) ?_)
   (Ex.seq (st1:=(st0 [.d (LD a),.d (LD b),.u,.d (.n 1),.u,.u,.u] [])) (Ex.of (n:=40) ?_)
   (Ex.seq (st1:=(st0 [.d (LD a),.d (LD b),.u,.d (.n 1),.d (.v (.int .u64 0)),.u,.u] [])) (Ex.of (n:=40) ?_)
   (Ex.seq (Ex.seq (st1:=YW a b [] 0 0 .u) (Ex.of (n:=40) ?_) hl.block) (Ex.of (n:=n0+40) ?_))))
  ·simp[agK,f228]
  ·simp[agL,f228]
  ·simp[agM,f228]
  ·simp[agN,YW,eD,eF,f228]
  ·unfold YW;simp only[LD]at hc ⊢
   by_cases hk0:o.length=0
   ·have hLo:LL o=[]:=Qo1 ae;have hv1:eD o.length=.d (.n 1):=by simp[eD,hk0]
    have E5:∀ l,eF o.length l=[]:=by intro l;simp[eF,hk0]
    rw[if_pos hk0,hv1,E5];rw[hLo]at hc;clear hl;simp[plC,f228,hc]
   ·have htk:(LL o).take o.length=LL o:=Qe1 ae;have hv1:eD o.length=.ls (.loc 0) (o.length-1) 1 0 o.length:=by simp[eD,hk0]
    have E5:∀ l,eF o.length l=[.row (o.length-1) 1 l]:=by intro l;simp[eF,hk0]
    rw[if_neg hk0,hv1,E5];clear hl;generalize LL o=es,o.length=k at*;simp[ah.view,plC,f228,hlo,htk,hc]
 ·simp[f228,LD]
abbrev Uj:Nat:=229
abbrev yO:bO:=f229
def miB:aF:=yO.body.r.r.r.l.r.bl.lp
def Uk (a b:List Nat)(es:List D)(n k s:Nat)(t:FV):St:=(st0 [.d (LD a),.d (LD b),.u,.ls (.loc 0) 0 1 0 n,.d (.v (.int .u64 s)),.u,.u,dI n,dI k,t] [.row 0 1 es])
theorem Qv (n:Nat)(a b:List Nat)(es:List D)(k s:Nat):EX E0 (n+60) miB (Uk a b es k k s .u)=some (.exit 0,Uk a b es k k s (dB false)):=by
 unfold Uk;simp[miB,f229]
theorem Jl (n:Nat)(a b:List Nat)(es:List D)(l k s s' d:Nat)(hk:k<l)(hl:l<=1000000000)(la:a.length<=1000000000)(lb:b.length<=1000000000)(ha:bY a)(hb:bY b)(hs:s<=1)(he:es.length=l)
  (hz:es[k]?=some (.v (.int .u32 0))) (hd:d<4294967296) (hs':s'<=1) (hdig:bH a k+4294967296*s'=d+bH b k+s) :
  EX E0 (n+60) miB (Uk a b es l k s .u)=some (.norm,Uk a b (es.set k (.v (.int .u32 (d:Int)))) l (k+1) s' .u):=by
 have h1:=fun m=>kK m a la k ae ha
 have h2:=fun m=>kK m b lb k ae hb
 have xa:=dx ha k;have xb:=dx hb k;simp only[LD]at h1 h2;have aW:ak .i64 ((k:Int)+1)=(k:Int)+1:=wrap_i64 ae;generalize bH a k=x,bH b k=y at*;have hk':(k:Int)<(l:Int):=ae;have hk1:((k+1:Nat):Int)=(k:Int)+1:=ae;have w1:ak .u64 (ak .u64 ((x:Int)-(y:Int))-(s:Int))=((x:Int)-(y:Int)-(s:Int)) % 18446744073709551616:=by rw[gP,gP];omega
 have w3:ak .u32 (((x:Int)-(y:Int)-(s:Int)) % 18446744073709551616)=(d:Int):=by rw[dU];omega
 have w4:Int.fdiv (((x:Int)-(y:Int)-(s:Int)) % 18446744073709551616) 9223372036854775808=(s':Int):=by rw[Ql2 _ ae];omega
 have hz2:=idx hz;unfold Uk;rw[hk1];simp[IntKind.bits,miB,f229,LD,hk',h1,h2,aW,w1,w3,w4,hz,hz2]
def miI (a b:List Nat)(t:List Nat × Nat):Prop :=
 t.1.length<=a.length/\t.2<=1/\bY t.1/\cu a t.1.length+4294967296 ^ t.1.length*t.2=val t.1+cu b t.1.length
theorem BP {P x y va vb vo s d s':Nat}(h:va+P*s=vo+vb)(hd:x+4294967296*s'=d+y+s):va+P*x+P*4294967296*s'=vo+P*d+(vb+P*y):=by
 have:P*x+P*4294967296*s'=P*d+P*y+P*s:=by
  rw[Q21,<-Xb2,<-Xb2,<-Xb2,hd]
 omega
theorem Mg (a b:List Nat)(la:a.length<=1000000000)(lb:b.length<=a.length)(ha:bY a)(hb:bY b)(hab:val b<=val a) :
  ∃ r,Ex E0 (.loop miB) (Uk a b (LL (row0 [] a.length)) a.length 0 0 .u) r/\∃ o,bY o/\val o=val a-val b/\o.length=a.length/\r=(.exit 0,Uk a b (LL o) a.length a.length 0 (dB false)):=by
 refine Ex.inv (S:=fun t:List Nat × Nat=>Uk a b (LL (row0 t.1 (a.length-t.1.length))) a.length t.1.length t.2 .u) (fun t=>a.length-t.1.length) (miI a b) _ ?_ ([],0) ?_
 ·rintro⟨o,s⟩ ⟨h1,h2,h3,h4⟩;simp only at h1 h2 h3 h4;have xa:=dx ha o.length;have xb:=dx hb o.length
  by_cases hk:o.length<a.length
  ·obtain⟨m,hm⟩:∃ m,a.length-o.length=m+1:=⟨a.length-o.length-1,ae⟩
   obtain⟨d,s',hd,hs',hdig⟩:∃ d s',d<4294967296/\s'<=1/\bH a o.length+4294967296*s'=d+bH b o.length+s:=by
    by_cases hc:bH b o.length+s<=bH a o.length
    ·exact⟨bH a o.length-(bH b o.length+s),0,ae,ae,ae⟩
    ·exact⟨bH a o.length+4294967296-(bH b o.length+s),1,ae,ae,ae⟩
   have hr:=Jl 0 a b (LL (row0 o (m+1))) a.length o.length s s' d hk la la ae ha hb h2 (by rw[rZ];omega) (OV o m) hd hs' hdig;rw[Jm]at hr;refine .inl ⟨(o++[d],s'),?_,?_,?_,?_,?_,?_⟩
   ·simp only[hm,Qb0,Qf2,Qs0];rw[show a.length-(o.length+(0+1))=m by omega];exact Ex.of hr
   ·simp only[Qb0,Qf2,Qs0];omega
   ·simp only[Qb0,Qf2,Qs0];omega
   ·exact hs'
   ·exact iM h3 (fun x hx=>by simp at hx;subst hx;exact hd)
   ·simp only[Qb0,Qf2,Qs0,Qz2];rw[eU,eU,val_append,Qn2];have hv:val [d]=d:=by simp[val]
    rw[hv];exact BP h4 hdig
  ·have he:o.length=a.length:=ae;rw[he,gF (Qd2 _),gF lb]at h4;have hlt:=oM h3;rw[he]at hlt;have hs0:s=0:=by
    rcases Qg0 s 1 with h|h
    ·omega
    ·have:s=1:=ae;subst this;generalize 4294967296 ^ a.length=p at*;omega
   subst hs0;refine .inr ⟨_,?_,?_,o,h3,ae,he,rfl⟩
   ·simp only[he,Xi0,FC];exact Ex.of (Qv 0 a b (LL o) a.length 0)
   ·simp
 ·refine⟨aC,aC,?_,?_⟩
  ·intro x hx;cases hx
  ·simp[val,cu]
theorem BQ (a b:List Nat)(la:a.length<=1000000000)(lb:b.length<=a.length)(ha:bY a)(hb:bY b)(hab:val b<=val a) :
  Ca E0 Uj [.d (LD a),.d (LD b)] (.d (LD (enc (val a-val b))),none):=by
 obtain⟨r,hl,o,ho,hv,hol,rfl⟩:=Mg a b la lb ha hb hab;obtain⟨n0,hc⟩:=(iL o ae).get;rw[dm ho,hv]at hc;have hlo:(LL o).length=a.length:=by simp[LL,hol]
 have hla:(LL a).length=a.length:=by simp[LL]
 have htk:(LL o).take a.length=LL o:=Qe1 ae;have hz:=wX a.length;generalize enc (val a-val b)=res at*;refine Ca.body (o:=.ret) (st1:=(st0 (.u::.u::.d (LD res)::rX) [.h_ 0 1 (LL o)])) rfl (aO 229 f229:E0.fn _=_) rfl ?_ (by intro id h;cases h) ?_
 ·show Ex E0 (.seq yO.body.l (.seq yO.body.r.l (.seq yO.body.r.r.l (.seq (.seq yO.body.r.r.r.l.l (.block 0 (.loop miB))) yO.body.r.r.r.r)))) _ _;refine Ex.seq (st1:=(st0 (.d (LD a)::.d (LD b)::zW) [])) (Ex.of (n:=40) ?_)
   (Ex.seq (st1:=(st0 (.d (LD a)::.d (LD b)::.u::.ls (.loc 0) 0 1 0 a.length::uV) [.row 0 1 (LL (row0 [] a.length))])) (Ex.of (n:=40) ?_)
   (Ex.seq (st1:=(st0 (.d (LD a)::.d (LD b)::.u::.ls (.loc 0) 0 1 0 a.length::.d (.v (.int .u64 0))::n_) [.row 0 1 (LL (row0 [] a.length))])) (Ex.of (n:=40) ?_)
   (Ex.seq (Ex.seq (Ex.of (n:=40) ?_) hl.block) (Ex.of (n:=n0+40) ?_))))
  ·simp[f229]
  ·have hm1:(a.length:Int)*4<=1099511627776:=ae;have hm2:(a.length:Int)<=1099511627776:=ae;rw[hz];simp[f229,LD,hla,hm1,hm2,most]
  ·simp[f229]
  ·unfold Uk;simp[f229,LD,hla]
  ·unfold Uk;simp only[LD]at hc ⊢;clear hl;generalize LL o=es at*;simp[ah.view,f229,hlo,htk,hc]
 ·simp[f229,LD]
abbrev adq:Nat:=233
abbrev BR:bO:=f233
theorem Ul {r:Nat}(hr:r<4294967296):Mh .u64 (r:Int) 32=(r:Int)*4294967296:=by
 rw[Be,<-cZ];have h:(2:Int) ^ (min (Int.toNat 32) (IntKind.bits .u64))=4294967296:=by rfl
 rw[h,wrap_u64 ae]
theorem BS {r x:Nat}(hr:r<4294967296)(hx:x<4294967296) :
  BU .u64 ((r:Int)*4294967296) (x:Int)=(r:Int)*4294967296+(x:Int):=by
 rw[yP,<-cZ]
 change ak .u64 ((BitVec.ofInt 64 ((r:Int)*4294967296) ||| BitVec.ofInt 64 (x:Int)).toNat:Int)=_
 rw[BitVec.ofInt_natCast];have hs:r <<< 32=r*4294967296:=by rw[Nat.shiftLeft_eq]
 have h0:((r:Int)*(4294967296:Int))=((r <<< 32:Nat):Int):=by rw[hs];omega
 have e1:BitVec.ofInt 64 ((r:Int)*(4294967296:Int))=BitVec.ofNat 64 (r <<< 32):=by
  rw[h0,BitVec.ofInt_natCast]
 have l1:r <<< 32<2 ^ 64:=by rw[hs];omega
 have l2:x<2 ^ 64:=ae;have l3:x<2 ^ 32:=ae;rw[e1,BitVec.toNat_or,BitVec.toNat_ofNat,BitVec.toNat_ofNat,Qx1 l1,Qx1 l2,<-Xo0 l3,hs];rw[wrap_u64 ae];omega
theorem zX {r d x B:Nat}(hr:r<d)(hx:x<B):(r*B+x) / d<B:=by
 rw[Qu0 ae];have h1:=Qf0 B hr;rw[Nat.succ_mul]at h1;rw[Qk2 B d];omega
def smB:aF:=BR.body.r.r.l.r.bl.lp
def Um (a:List Nat)(es:List D)(d n:Nat)(k:Int)(r:Nat)(t:FV):St:=(st0 [.d (LD a),.d (.v (.int .u32 d)),.u,.u,.ls (.loc 0) 0 1 0 n,.d (.v (.int .u64 r)),dI k,t] [.row 0 1 es])
theorem Qw (n:Nat)(a:List Nat)(es:List D)(d l r:Nat):EX E0 (n+60) smB (Um a es d l (-1) r .u)=some (.exit 0,Um a es d l (-1) r (dB false)):=by
 unfold Um;simp[smB,f233]
theorem Jn (n:Nat)(a:List Nat)(es:List D)(l d k r x:Nat)(hk:k<l)(hl:l<=1000000000)(hx:a[k]?=some x)(hx32:x<4294967296)(hd:d<4294967296)(hr:r<d)(he:es.length=l)
  (hz:es[k]?=some (.v (.int .u32 0))) :
  EX E0 (n+60) smB (Um a es d l k r .u)=some (.norm,Um a (es.set k (.v (.int .u32 (((r*4294967296+x) / d:Nat):Int)))) d l ((k:Int)-1) ((r*4294967296+x) % d) .u):=by
 have hdec:ak .i64 ((k:Int)-1)=(k:Int)-1:=wrap_i64 ae;have hk0:(0:Int)<=(k:Int):=ae;have hk':k<l:=hk;have hxa:(LL a)[k]?=some (.v (.int .u32 (x:Int))):=by simp[LL,hx]
 have ajA:=idx hxa;have hz2:=idx hz;have hla:k<a.length:=(aT hx)
 have hq:(r*4294967296+x) / d<4294967296:=zX hr hx32;have hm:(r*4294967296+x) % d<d:=Qu1 _ ae;have w2:ak .u64 (x:Int)=(x:Int):=wrap_u64 ae;have w4:ak .u64 (d:Int)=(d:Int):=wrap_u64 ae;have hd0:¬ ((d:Int)=0):=ae;have ZB:¬ d=0:=ae;obtain⟨R,hR⟩:∃ R:Nat,R=r*4294967296:=⟨_,rfl⟩
 obtain⟨Y,hY⟩:∃ Y:Nat,Y=r*4294967296+x:=⟨_,rfl⟩
 have w1:Mh .u64 (r:Int) 32=(R:Int):=by rw[Ul ae];omega
 have w3:BU .u64 (R:Int) (x:Int)=(Y:Int):=by
  have:=BS (r:=r) (x:=x) ae hx32;rw[show(R:Int)=(r:Int)*4294967296 by omega,this];omega
 rw[<-hY]at hq hm ⊢;clear hY hR;have w5:Int.tdiv (Y:Int) (d:Int)=((Y / d:Nat):Int):=by rw[Q72 ae,X02]
 have w6:Int.tmod (Y:Int) (d:Int)=((Y % d:Nat):Int):=by rw[Xd2 ae,Int.natCast_emod]
 generalize Y / d=qq,Y % d=mm at*;have w7:ak .u64 (qq:Int)=(qq:Int):=wrap_u64 ae;have w8:ak .u32 (qq:Int)=(qq:Int):=wrap_u32 ae;unfold Um;simp only[LD];generalize LL a=xs at*;simp[IntKind.bits,smB,f233,hk',hk0,hdec,hxa,ajA,hz,hz2,w1,w2,w3,w4,w5,w6,w7,w8,hd0,ZB]
def kE (m:Nat)(q:List Nat):List Nat:=List.replicate m 0++q
theorem OW (q:List Nat)(m:Nat):(LL (kE (m+1) q))[m]?=some (.v (.int .u32 0)):=by
 simp[LL,kE,Qa0]
theorem Jo (q:List Nat)(m v:Nat):(LL (kE (m+1) q)).set m (.v (.int .u32 (v:Int)))=LL (kE m (v::q)):=by
 simp only[LL,kE,Qn0,List.map_replicate,List.replicate_succ',Qm2];rw[Q00 _ _ aC];simp
theorem r9 (q:List Nat)(m:Nat):(LL (kE m q)).length=m+q.length:=by simp[LL,kE]
def smI (a:List Nat)(d:Nat)(t:Nat × List Nat × Nat):Prop :=
 t.1<=a.length/\t.1+t.2.1.length=a.length/\t.2.2<d/\bY t.2.1/\val (a.drop t.1)=val t.2.1*d+t.2.2
theorem Mi {B V d r x Y:Nat}(hY:Y=r*B+x):x+B*(V*d+r)=(Y / d+B*V)*d+Y % d:=by
 have:=Xs1 Y d;rw[Qq1];have e:B*(V*d+r)=B*V*d+r*B:=by rw[Xb2,Q21,Qk2 r B]
 rw[e,Qk2 (Y / d) d];omega
theorem Mj (a:List Nat)(d:Nat)(la:a.length<=1000000000)(ha:bY a)(hd:d<4294967296)(hd0:0<d) :
  ∃ r,Ex E0 (.loop smB) (Um a (LL (kE a.length [])) d a.length ((a.length:Int)-1) 0 .u) r /\
   ∃ q m,bY q/\q.length=a.length/\val q=val a / d/\m=val a % d/\r=(.exit 0,Um a (LL q) d a.length (-1) m (dB false)):=by
 refine Ex.inv (S:=fun t:Nat × List Nat × Nat=>Um a (LL (kE t.1 t.2.1)) d a.length ((t.1:Int)-1) t.2.2 .u) (fun t=>t.1) (smI a d) _ ?_ (a.length,[],0) ?_
 ·rintro⟨k,q,r⟩ ⟨h1,h2,h3,h4,h5⟩;simp only at h1 h2 h3 h4 h5;cases k with
  | zero =>
   refine .inr ⟨_,?_,?_,q,r,h4,ae,?_,?_,rfl⟩
   ·have:=Qw 0 a (LL q) d a.length r;simpa[kE] using Ex.of this
   ·simp
   ·rw[Xv2]at h5;rw[h5,Qk2,Xl2 hd0,Xa1 h3];rfl
   ·rw[Xv2]at h5;rw[h5,Qk2,X2,Qx1 h3]
  | succ k =>
   have hx:a[k]?=some (a[k]'(by omega)):=Qa1 ae;have hx32:a[k]'(by omega)<4294967296:=ha _ (Qi0 _);have hat:bH a k=a[k]'(by omega):=by simp[bH,hx]
   generalize a[k]'(by omega)=x at hx hx32 hat;have hr:=Jn 0 a (LL (kE (k+1) q)) a.length d k r x ae la hx hx32 hd h3 (by rw[r9];omega) (OW q k);rw[Jo]at hr;refine .inl ⟨(k,(r*4294967296+x) / d::q,(r*4294967296+x) % d),?_,aC,?_,?_,?_,?_,?_⟩
   ·simp only;rw[show(((k+1:Nat):Int)-1)=(k:Int) by omega];exact Ex.of hr
   ·simp only;omega
   ·simp only[Qf2];omega
   ·exact Qu1 _ hd0
   ·intro y hy;rcases Qi1.1 hy with rfl|hy
    ·exact zX h3 hx32
    ·exact h4 y hy
   ·simp only[val];rw[jo,hat,h5];exact Mi rfl
 ·refine⟨aC,aC,hd0,?_,?_⟩
  ·intro x hx;cases hx
  ·simp[val]
theorem Un (a:List Nat)(d:Nat)(la:a.length<=1000000000)(ha:bY a)(hd:d<4294967296)(hd0:0<d) :
  Ca E0 adq [.d (LD a),.d (.v (.int .u32 d))] (.d (.t [LD (enc (val a / d)),.v (.int .u32 ((val a % d:Nat):Int))]),none):=by
 obtain⟨r,hl,q,m,hq,hql,hv,hm,rfl⟩:=Mj a d la ha hd hd0;obtain⟨n0,hc⟩:=(iL q ae).get;rw[dm hq,hv]at hc;have hlo:(LL q).length=a.length:=by simp[LL,hql]
 have hla:(LL a).length=a.length:=by simp[LL]
 have htk:(LL q).take a.length=LL q:=Qe1 ae;have hz:LL (kE a.length [])=List.replicate a.length (.v (.int .u32 0)):=by simp[LL,kE]
 have hmd:m<4294967296:=by have:=Qu1 (val a) hd0;omega
 have hw:ak .u32 (m:Int)=(m:Int):=wrap_u32 ae;rw[<-hm];generalize enc (val a / d)=res at*;refine Ca.body (o:=.ret) (st1:=(st0 (.u::.u::.d (LD res)::.d (.v (.int .u32 m))::wW) [.h_ 0 1 (LL q)])) rfl (aO 233 f233:E0.fn _=_) rfl ?_ (by intro id h;cases h) ?_
 ·show Ex E0 (.seq BR.body.l (.seq BR.body.r.l (.seq (.seq BR.body.r.r.l.l (.block 0 (.loop smB))) BR.body.r.r.r))) _ _;refine Ex.seq (st1:=(st0 (.d (LD a)::.d (.v (.int .u32 d))::uV) [])) (Ex.of (n:=40) ?_)
   (Ex.seq (st1:=(st0 [.d (LD a),.d (.v (.int .u32 d)),.u,.u,.ls (.loc 0) 0 1 0 a.length,.d (.v (.int .u64 0)),.u,.u] [.row 0 1 (LL (kE a.length []))])) (Ex.of (n:=40) ?_)
   (Ex.seq (Ex.seq (Ex.of (n:=40) ?_) hl.block) (Ex.of (n:=n0+40) ?_)))
  ·simp[f233]
  ·have hm1:(a.length:Int)*4<=1099511627776:=ae;have hm2:(a.length:Int)<=1099511627776:=ae;rw[hz];simp[f233,LD,hla,hm1,hm2,most]
  ·have hdec:ak .i64 ((a.length:Int)-1)=(a.length:Int)-1:=wrap_i64 ae;unfold Um;simp[f233,LD,hla,hdec]
  ·unfold Um;simp only[LD]at hc ⊢;clear hl;generalize LL q=es at*;simp[ah.view,f233,hlo,htk,hc,hw]
 ·simp[f233,LD,rH]
abbrev Uo:Nat:=188
abbrev BV:bO:=f188
theorem Bf:∀ (O:List Nat) (m v:Nat),m<O.length->val (O.set m v)+4294967296 ^ m*bH O m=val O+4294967296 ^ m*v
 | [],m,v,h=>by simp at h
 | y::r,0,v,_=>by simp[val,bH];omega
 | y::r,m+1,v,h=>by
  have ih:=Bf r m v (by simpa using h);rw[List.set_cons_succ,val,val];have:bH (y::r) (m+1)=bH r m:=by simp[bH]
  rw[this,Qn2];generalize 4294967296 ^ m=p,bH r m=q at*;have e1:p*4294967296*q=4294967296*(p*q):=by grind
  have e2:p*4294967296*v=4294967296*(p*v):=by grind
  rw[e1,e2];omega
theorem G7 {O:List Nat}(h:bY O){m v:Nat}(hv:v<4294967296):bY (O.set m v):=by
 intro x hx;rcases Q41 hx with h1|h1
 ·exact h x h1
 ·omega
def G8:aF:=BV.body.r.r.l.r.bl.lp
def tjB:aF:=G8.r.r.l.bl.r.r.r.bl.lp
def Uq (a b O:List Nat)(n i s j:Nat)(t:FV):St:=(st0 [.d (LD a),.d (LD b),.u,.ls (.loc 0) 0 1 0 n,dI i,.d (.v (.int .u64 s)),dI j,dI a.length,dI i,.u,t] [.row 0 1 (LL O)])
theorem Qx (n:Nat)(a b O:List Nat)(l i j:Nat)(hj:¬ j<b.length):EX E0 (n+60) tjB (Uq a b O l i 0 j .u)=some (.exit 2,Uq a b O l i 0 j (dB false)):=by
 have hlb:(LL b).length=b.length:=by simp[LL]
 unfold Uq;simp only[LD];generalize LL b=bs,LL a=as' at*;simp[tjB,G8,f188,hlb,hj]
theorem Jp (n:Nat)(a b O:List Nat)(l i s j T:Nat)(hc:j<b.length\/0<s)(hm:i+j<l)(hl:l<=1000000000)(la:a.length<=1000000000)(lb:b.length<=1000000000)(ha:bY a)(hb:bY b)(hO:bY O)
  (he:O.length=l) (hs:s<4294967296) (hT:T=s+(bH O (i+j)+bH a i*bH b j)) :
  EX E0 (n+60) tjB (Uq a b O l i s j .u)=some (.norm,Uq a b (O.set (i+j) (T % 4294967296)) l i (T / 4294967296) (j+1) .u):=by
 have h1:=fun m=>kK m a la i ae ha
 have h2:=fun m=>kK m b lb j ae hb
 have xa:=dx ha i;have xb:=dx hb j;have xo:=dx hO (i+j);have ho:(LL O)[i+j]?=some (.v (.int .u32 (bH O (i+j):Int))):=by
  have:O[i+j]?=some (O[i+j]'(by omega)):=Qa1 ae;simp[LL,bH,this]
 have hset:LL (O.set (i+j) (T % 4294967296))=(LL O).set (i+j) (.v (.int .u32 ((T % 4294967296:Nat):Int))):=by simp[LL,Q51]
 have hlb:(LL b).length=b.length:=by simp[LL]
 simp only[LD]at h1 h2;have aW:ak .i64 ((j:Int)+1)=(j:Int)+1:=wrap_i64 ae;have hk1:((j+1:Nat):Int)=(j:Int)+1:=ae;unfold Uq;rw[hset,hk1];generalize bH a i=x,bH b j=y,bH O (i+j)=o at*;have hxy:x*y<=4294967295*4294967295:=Q22 ae ae;have wm:ak .i64 ((i:Int)+(j:Int))=((i+j:Nat):Int):=by rw[wrap_i64 ae];omega
 generalize i+j=m at*;obtain⟨P,hP⟩:∃ P:Nat,P=x*y:=⟨_,rfl⟩
 have w1:ak .u64 ((x:Int)*(y:Int))=(P:Int):=by rw[<-Int.natCast_mul,<-hP];exact wrap_u64 ae
 rw[<-hP]at hT hxy;have w2:ak .u64 (o:Int)=(o:Int):=wrap_u64 ae;obtain⟨Q,hQ⟩:∃ Q:Nat,Q=o+P:=⟨_,rfl⟩
 have w3:ak .u64 ((o:Int)+(P:Int))=(Q:Int):=by rw[wrap_u64 ae];omega
 have w4:ak .u64 ((s:Int)+(Q:Int))=(T:Int):=by rw[wrap_u64 ae];omega
 have w5:ak .u32 (T:Int)=((T % 4294967296:Nat):Int):=by rw[dU];omega
 have w6:Int.fdiv (T:Int) 4294967296=((T / 4294967296:Nat):Int):=by rw[Ql2 _ ae];omega
 clear hP hQ hT hxy;generalize T % 4294967296=lo,T / 4294967296=hi at*;have hm0:(0:Int)<=(m:Int):=ae;have ho2:=idx ho;simp only[LD];generalize LL b=bs,LL a=as',LL O=es at*
 by_cases hj:j<b.length
 ·simp[IntKind.bits,tjB,G8,f188,hlb,hj,h1,h2,aW,wm,hm,hm0,ho,ho2,w1,w2,w3,w4,w5,w6]
 ·have hs0:0<s:=ae;simp[IntKind.bits,tjB,G8,f188,hlb,hj,hs0,h1,h2,aW,wm,hm,hm0,ho,ho2,w1,w2,w3,w4,w5,w6]
theorem Mk {V V' P o lo hi s xy:Nat}(h1:V'+P*o=V+P*lo)(h2:s+(o+xy)=lo+4294967296*hi):V'+hi*(P*4294967296)=V+s*P+P*xy:=by
 have h3:P*(s+(o+xy))=P*(lo+4294967296*hi):=by rw[h2]
 grind
def tjI (a b:List Nat)(n i:Nat)(t:List Nat × Nat × Nat):Prop :=
 t.1.length=n/\bY t.1/\t.2.1<4294967296/\val t.1+t.2.1*4294967296 ^ (i+t.2.2)=cu a i*val b+4294967296 ^ i*(bH a i*cu b t.2.2)
theorem BX {a b:List Nat}{i j:Nat}(hj:b.length<=j):cu a i*val b+4294967296 ^ i*(bH a i*cu b j)=cu a (i+1)*val b:=by
 rw[gF hj,eU,Qq1,Q21]
theorem Ur {a b:List Nat}(ha:bY a)(hb:bY b)(i:Nat):cu a (i+1)*val b<4294967296 ^ (i+1+b.length):=by
 have h1:=pE ha (i+1);have h2:=oM hb;rw[Qz1];exact Nat.mul_lt_mul_of_lt_of_le h1 (Nat.le_of_lt h2) (Qt2 ae)
theorem Ml {a b O:List Nat}{i j s:Nat}(ha:bY a)(hb:bY b)(hj:b.length<=j)
  (h:val O+s*4294967296 ^ (i+j)=cu a i*val b+4294967296 ^ i*(bH a i*cu b j)) (hs:0<s):j=b.length:=by
 rw[BX hj]at h;have h1:=Ur ha hb i;rcases Qg0 b.length j with h2|h2
 ·exfalso;have h3:4294967296 ^ (i+1+b.length)<=4294967296 ^ (i+j):=Qv0 ae ae;have h4:4294967296 ^ (i+j)<=s*4294967296 ^ (i+j):=Nat.le_mul_of_pos_left _ hs;omega
 ·omega
theorem Jq (a b O:List Nat)(i:Nat)(hi:i<a.length)(la:a.length<=100000000)(lb:b.length<=100000000)(ha:bY a)(hb:bY b)(hO:bY O)(he:O.length=a.length+b.length)(hv:val O=cu a i*val b) :
  ∃ r,Ex E0 (.loop tjB) (Uq a b O (a.length+b.length) i 0 0 .u) r/\∃ O' j,bY O'/\O'.length=a.length+b.length/\val O'=cu a (i+1)*val b /\
   r=(.exit 2,Uq a b O' (a.length+b.length) i 0 j (dB false)):=by
 refine Ex.inv (S:=fun t:List Nat × Nat × Nat=>Uq a b t.1 (a.length+b.length) i t.2.1 t.2.2 .u) (fun t=>b.length+2-t.2.2) (tjI a b (a.length+b.length) i) _ ?_ (O,0,0) ?_
 ·rintro⟨O,s,j⟩ ⟨h1,h2,h3,h4⟩;simp only at h1 h2 h3 h4
  by_cases hc:j<b.length\/0<s
  ·have hjb:j<=b.length:=by
    rcases Qg0 j b.length with h|h
    ·omega
    ·exact Nat.le_of_eq (Ml ha hb h h4 ae)
   have hr:=Jp 0 a b O (a.length+b.length) i s j _ hc ae ae ae ae ha hb h2 h1 h3 rfl;have hset:=Bf O (i+j) ((s+(bH O (i+j)+bH a i*bH b j)) % 4294967296) ae;have xo:=dx h2 (i+j);have xa:=dx ha i;have xb:=dx hb j;have hxy:bH a i*bH b j<=4294967295*4294967295:=Q22 ae ae;have hT:(s+(bH O (i+j)+bH a i*bH b j))=(s+(bH O (i+j)+bH a i*bH b j)) % 4294967296+4294967296*((s+(bH O (i+j)+bH a i*bH b j)) / 4294967296):=ae;refine .inl ⟨(O.set (i+j) ((s+(bH O (i+j)+bH a i*bH b j)) % 4294967296),(s+(bH O (i+j)+bH a i*bH b j)) / 4294967296,j+1),Ex.of hr,?_,?_,?_,?_,?_⟩
   ·simp only;omega
   ·simp[h1]
   ·exact G7 h2 (Qu1 _ ae)
   ·simp only;generalize bH a i*bH b j=xy at*;omega
   ·simp only;have:=Mk hset hT;rw[show i+(j+1)=(i+j)+1 by omega,Qn2,this,h4,eU];rw[Qz1];generalize 4294967296 ^ i=p;generalize 4294967296 ^ j=q;grind
  ·have hs:s=0:=ae;subst hs;have hj:b.length<=j:=ae;rw[BX hj]at h4;refine .inr ⟨_,Ex.of (Qx 0 a b O (a.length+b.length) i j ae),aC,O,j,h2,h1,ae,rfl⟩
 ·exact⟨he,hO,aC,by simp[hv,cu,val]⟩
def LW (a b O:List Nat)(i:Nat)(t:FV):St:=(st0 [.d (LD a),.d (LD b),.u,.ls (.loc 0) 0 1 0 (a.length+b.length),.u,.u,.u,dI a.length,dI i,t,.u] [.row 0 1 (LL O)])
theorem Jr (a b:List Nat)(la:a.length<=100000000)(lb:b.length<=100000000)(ha:bY a)(hb:bY b) :
  ∃ r,Ex E0 (.loop G8) (LW a b (row0 [] (a.length+b.length)) 0 .u) r/\∃ O,bY O/\O.length=a.length+b.length/\val O=val a*val b/\r=(.exit 0,LW a b O a.length (dB false)):=by
 refine Ex.inv (S:=fun t:List Nat × Nat=>LW a b t.1 t.2 .u) (fun t=>a.length-t.2) (fun t=>t.2<=a.length/\t.1.length=a.length+b.length/\bY t.1/\val t.1=cu a t.2*val b) _ ?_ (row0 [] (a.length+b.length),0) ?_
 ·rintro⟨O,i⟩ ⟨h1,h2,h3,h4⟩;simp only at h1 h2 h3 h4
  by_cases hi:i<a.length
  ·obtain⟨r,hr,O',j,g1,g2,g3,rfl⟩:=Jq a b O i hi la lb ha hb h3 h2 h4;refine .inl ⟨(O',i+1),?_,by simp only;omega,by simp only;omega,g2,g1,g3⟩;have aW:ak .i64 ((i:Int)+1)=(i:Int)+1:=wrap_i64 ae;have hk1:((i+1:Nat):Int)=(i:Int)+1:=ae;show Ex E0 (.seq G8.l (.seq G8.r.l (.seq (.block 1 (.seq G8.r.r.l.bl.l (.seq G8.r.r.l.bl.r.l (.seq G8.r.r.l.bl.r.r.l (.block 2 (.loop tjB)))))) G8.r.r.r))) _ _;refine Ex.seq (st1:=LW a b O i (dB true)) (Ex.of (n:=40) ?_) (Ex.seq (st1:=LW a b O i (dB true)) (Ex.of (n:=40) ?_) (Ex.seq (Ex.eZ
    (Ex.seq (st1:={LW a b O i .u with vars:=[.d (LD a),.d (LD b),.u,.ls (.loc 0) 0 1 0 (a.length+b.length),dI i,.u,.u,dI a.length,dI i,.u,.u]}) (Ex.of (n:=40) ?_)
    (Ex.seq (st1:={LW a b O i .u with vars:=[.d (LD a),.d (LD b),.u,.ls (.loc 0) 0 1 0 (a.length+b.length),dI i,.d (.v (.int .u64 0)),.u,dI a.length,dI i,.u,.u]}) (Ex.of (n:=40) ?_)
    (Ex.seq (Ex.of (n:=40) ?_) hr.block)))) (Ex.of (n:=40) ?_)))
   ·unfold LW;simp[G8,f188,hi]
   ·unfold LW;simp[G8,f188]
   ·unfold LW;simp[G8,f188]
   ·unfold LW;simp[G8,f188]
   ·unfold LW Uq;simp[G8,f188]
   ·unfold LW Uq;rw[hk1];simp[G8,f188,aW]
  ·have he:i=a.length:=ae;subst he;rw[gF (Qd2 _)]at h4;refine .inr ⟨_,Ex.of (n:=60) ?_,?_,O,h3,h2,h4,rfl⟩
   ·unfold LW;simp[G8,f188]
   ·simp
 ·refine⟨aC,by simp[row0],?_,?_⟩
  ·intro x hx;simp[row0]at hx;omega
  ·have:∀ m,val (List.replicate m 0)=0:=by
    intro m
    induction m with
    | zero=>rfl
    | succ m ih=>rw[Xk1,val,ih]
   simp[row0,cu,val,this]
theorem Js (a b:List Nat)(la:a.length<=100000000)(lb:b.length<=100000000)(ha:bY a)(hb:bY b) :
  Ca E0 Uo [.d (LD a),.d (LD b)] (.d (LD (enc (val a*val b))),none):=by
 obtain⟨r,hl,o,ho,hol,hv,rfl⟩:=Jr a b la lb ha hb;obtain⟨n0,hc⟩:=(iL o ae).get;rw[dm ho,hv]at hc;have hlo:(LL o).length=a.length+b.length:=by simp[LL,hol]
 have hla:(LL a).length=a.length:=by simp[LL]
 have hlb:(LL b).length=b.length:=by simp[LL]
 have htk:(LL o).take (a.length+b.length)=LL o:=Qe1 ae;have hz:=wX (a.length+b.length);generalize enc (val a*val b)=res at*;refine Ca.body (o:=.ret) (st1:=(st0 (.u::.u::.d (LD res)::zW) [.h_ 0 1 (LL o)])) rfl (aO 188 f188:E0.fn _=_) rfl ?_ (by intro id h;cases h) ?_
 ·show Ex E0 (.seq BV.body.l (.seq BV.body.r.l (.seq (.seq BV.body.r.r.l.l (.block 0 (.loop G8))) BV.body.r.r.r))) _ _;refine Ex.seq (st1:=(st0 (.d (LD a)::.d (LD b)::OU) [])) (Ex.of (n:=40) ?_)
   (Ex.seq (st1:=(st0 (.d (LD a)::.d (LD b)::.u::.ls (.loc 0) 0 1 0 (a.length+b.length)::rX) [.row 0 1 (LL (row0 [] (a.length+b.length)))])) (Ex.of (n:=40) ?_)
   (Ex.seq (Ex.seq (Ex.of (n:=40) ?_) hl.block) (Ex.of (n:=n0+40) ?_)))
  ·simp[f188]
  ·have hw:ak .i64 ((a.length:Int)+(b.length:Int))=((a.length+b.length:Nat):Int):=by rw[wrap_i64 ae];omega
   have hmb:a.length+b.length<=200000000:=ae;rw[hz];generalize a.length+b.length=m at*;have hm1:(m:Int)*4<=1099511627776:=ae;have hm2:(m:Int)<=1099511627776:=ae;simp[f188,LD,hla,hlb,hw,hm1,hm2,most]
  ·unfold LW;simp[f188,LD,hla]
  ·unfold LW;simp only[LD]at hc ⊢;clear hl;generalize LL o=es,a.length+b.length=m at*;simp[ah.view,f188,hlo,htk,hc]
 ·simp[f188,LD]
abbrev acr:Nat:=226
abbrev zY:bO:=f226
abbrev ajB:Nat:=183
abbrev adt:bO:=f183
theorem jI {d:Nat}(h0:0<d)(h:d<4294967296):enc d=[d]:=by
 rw[enc,if_neg ae,Qx1 h,Xa1 h];simp[enc]
theorem dH:enc 0=[]:=by simp[enc]
theorem Jt (r:Nat)(h:r<4294967296):trim [r]=enc r:=by
 rw[dm (by intro x hx;simp at hx;omega)];simp[val]
theorem Us (a:List Nat)(d:Nat)(la:a.length<=1000000000)(ha:bY a)(hd:d<4294967296)(hd0:0<d) :
  Ca E0 acr [.d (LD a),.d (LD (enc d))] (.d (.t [LD (enc (val a / d)),LD (enc (val a % d))]),none):=by
 obtain⟨n0,hs⟩:=(Un a d la ha hd hd0).any;have hm:val a % d<4294967296:=by have:=Qu1 (val a) hd0;omega
 obtain⟨n1,hc⟩:=(iL [val a % d] aC).any;replace hs:=hs (n0+n1) ae;replace hc:=hc (n0+n1) ae;generalize n0+n1=N at*;rw[Jt _ hm]at hc;rw[jI hd0 hd];generalize enc (val a / d)=q,val a % d=m at*;generalize enc m=r at*;simp only[LD,LL,Qe2,Qc2]at hs hc ⊢;refine Ca.bQ (n:=N+60) ?_;rw[aA rfl (k226:E0.fn _=_) rfl];generalize List.map (fun(x:Nat)=>D.v (Value.int IntKind.u32 (x:Int))) a=as' at*;simp[f226,rH,hs,hc]
def gcB:aF:=adt.body.r.l.bl.lp
def ET (a b:Nat)(t:FV):St:=(st0 [.d (LD (enc a)),.d (LD (enc b)),.u,.u,t] [])
theorem gQ {n k:Nat}(h:n<4294967296 ^ k):(enc n).length<=k:=by
 induction k generalizing n with
 | zero => have : n = 0 := by simp at h;omega
           subst this;simp[dH]
 | succ k ih =>
  rw[enc];split
  ·simp
  ·simp only[Qf2];have:=ih (n:=n / 4294967296) (by rw[Qn2]at h;omega);omega
theorem ZC (a:Nat):Ex E0 gcB (ET a 0 .u) (.exit 0,ET a 0 (dB false)):=by
 refine Ex.of (n:=40) ?_;unfold ET;simp only[dH,LD];generalize LL (enc a)=as';simp[gcB,f183,LL]
abbrev agO:Nat:=267
abbrev FD:bO:=f267
theorem Qy {x s:Nat}(hx:x<4294967296)(hs:s<32):Mh .u64 (x:Int) (s:Int)=((x*2 ^ s:Nat):Int):=by
 have hp:2 ^ s<=2147483648:=by
  have:=Qv0 (n:=2) ae (show s<=31 by omega);simpa using this
 have hxs:x*2 ^ s<=4294967295*2147483648:=Q22 ae hp;rw[Be,<-cZ];have h:(2:Int) ^ (min (Int.toNat (s:Int)) (IntKind.bits .u64))=((2 ^ s:Nat):Int):=by
  have:min (Int.toNat (s:Int)) (IntKind.bits .u64)=s:=by simp[IntKind.bits];omega
  rw[this];simp
 rw[h,<-Int.natCast_mul];exact wrap_u64 ae
theorem adu {r x s:Nat}(hr:r<2 ^ s)(hx:x<4294967296)(hs:s<32):BU .u64 (r:Int) ((x*2 ^ s:Nat):Int)=((r+x*2 ^ s:Nat):Int):=by
 have hp:2 ^ s<=2147483648:=by
  have:=Qv0 (n:=2) ae (show s<=31 by omega);simpa using this
 have hxs:x*2 ^ s<=4294967295*2147483648:=Q22 ae hp;rw[yP,<-cZ]
 change ak .u64 ((BitVec.ofInt 64 (r:Int) ||| BitVec.ofInt 64 ((x*2 ^ s:Nat):Int)).toNat:Int)=_
 have e:x*2 ^ s=x <<< s:=by rw[Nat.shiftLeft_eq]
 have l1:r<2 ^ 64:=ae;have l2:x <<< s<2 ^ 64:=by rw[<-e];omega
 rw[BitVec.ofInt_natCast,BitVec.ofInt_natCast,BitVec.toNat_or,BitVec.toNat_ofNat,BitVec.toNat_ofNat,e,Qx1 l1,Qx1 l2,Nat.or_comm,<-Xo0 hr,Xp2];refine wrap_u64 ?_;rw[<-e];omega
def leB:aF:=FD.body.r.r.r.l.r.bl.lp
def ZE (a o:List Nat)(k z j r:Nat)(t:FV):St:=(st0 [.u,dI k,.u,.ls (.loc 0) j 1 0 (z+j),.d (.v (.int .u64 r)),.u,.d (LD a),dI a.length,dI j,t] [.row j 1 (LL o)])
theorem Mm (a o:List Nat)(k z s j r x:Nat)(hk:k=32*z+s)(hs:s<32)(hz:z<=100000000)(hx:a[j]?=some x)(hx32:x<4294967296)(la:a.length<=100000000)(ho:o.length=z+j)(hr:r<2 ^ s) :
  EX E0 60 leB (ZE a o k z j r .u)=some (.norm,ZE a (o++[(r+x*2 ^ s) % 4294967296]) k z (j+1) ((r+x*2 ^ s) / 4294967296) .u):=by
 have hj:=(aT hx)
 have hx':(LL a)[j]?=some (.v (.int .u32 (x:Int))):=by simp[LL,hx]
 have hx2:=idx hx';have hp:2 ^ s<=2147483648:=by
  have:=Qv0 (n:=2) ae (show s<=31 by omega);simpa using this
 have hxs:x*2 ^ s<=4294967295*2147483648:=Q22 ae hp;have w1:ak .u64 (x:Int)=(x:Int):=wrap_u64 ae;have w2:Int.tmod (k:Int) 32=(s:Int):=by rw[Xd2 ae];omega
 have w3:=Qy hx32 hs;have w4:=adu hr hx32 hs;have hT:∃ T:Nat,T=r+x*2 ^ s:=⟨_,rfl⟩
 obtain⟨T,hT⟩:=hT;rw[<-hT]at w4 ⊢;have hTb:T<18446744073709551616:=ae;have hP:∃ P:Nat,P=x*2 ^ s:=⟨_,rfl⟩
 obtain⟨P,hP⟩:=hP;rw[<-hP]at w3 w4;have w5:ak .u32 (T:Int)=((T % 4294967296:Nat):Int):=by rw[dU];omega
 have w6:Int.fdiv (T:Int) 4294967296=((T / 4294967296:Nat):Int):=by rw[Ql2 _ ae];omega
 have aW:ak .i64 ((j:Int)+1)=(j:Int)+1:=wrap_i64 ae;have hk1:((j+1:Nat):Int)=(j:Int)+1:=ae;have hj0:(0:Int)<=(j:Int):=ae;have hs0:¬ ((s:Int)<0):=ae;have hol:(LL o).length=z+j:=by simp[LL,ho]
 have htk:(LL o).take (z+j)=LL o:=Qe1 ae;have hm1:(z+j+1)*4<=most:=by simp[most];omega
 have hm2:z+j+1<=most:=by simp[most];omega
 have Tv:LL (o++[T % 4294967296])=LL o++[.v (.int .u32 ((T % 4294967296:Nat):Int))]:=by simp[LL]
 clear hT hP hxs hp hTb;generalize T % 4294967296=lo,T / 4294967296=hi at*;unfold ZE;rw[Tv,hk1,<-Qr0];simp only[LD];generalize LL a=xs,LL o=es,z+j=m at*;simp[IntKind.bits,leB,f267,hj,hj0,hx',hx2,aW,hs0,w1,w2,w3,w4,w5,w6,hol,htk,hm1,hm2]
theorem left_step {V r Q x T W E:Nat}(h:V+r*Q=E*W)(hT:T=r+x):V+Q*(T % 4294967296)+T / 4294967296*(Q*4294967296)=E*W+Q*x:=by
 have h1:Q*(T % 4294967296)+T / 4294967296*(Q*4294967296)=Q*T:=by
  have:=Nat.mod_add_div T 4294967296;generalize T % 4294967296=a,T / 4294967296=b at*;subst this;grind
 have h2:Q*T=Q*r+Q*x:=by rw[hT,Xb2]
 have h3:Q*r=r*Q:=Qk2 _ _;omega
theorem Qz (m:Nat):val (List.replicate m 0)=0:=by
 induction m with
 | zero=>rfl
 | succ m ih=>rw[Xk1,val,ih]
theorem QA (a:List Nat)(k z s:Nat)(hk:k=32*z+s)(hs:s<32)(hz:z<=100000000)(la:a.length<=100000000)(ha:bY a) :
  ∃ r,Ex E0 (.loop leB) (ZE a (List.replicate z 0) k z 0 0 .u) r/\∃ o q,bY o/\o.length=z+a.length/\q<2 ^ s /\
   val o+q*4294967296 ^ (z+a.length)=4294967296 ^ z*2 ^ s*val a/\r=(.exit 0,ZE a o k z a.length q (dB false)):=by
 refine Ex.inv (S:=fun t:List Nat × Nat × Nat=>ZE a t.1 k z t.2.1 t.2.2 .u) (fun t=>a.length-t.2.1)
  (fun t=>t.2.1<=a.length/\t.1.length=z+t.2.1/\t.2.2<2 ^ s/\bY t.1/\val t.1+t.2.2*4294967296 ^ (z+t.2.1)=4294967296 ^ z*2 ^ s*cu a t.2.1) _ ?_ (List.replicate z 0,0,0) ?_
 ·rintro⟨o,j,r⟩ ⟨h1,h2,h3,h4,h5⟩;simp only at h1 h2 h3 h4 h5
  by_cases hj:j<a.length
  ·have hx:a[j]?=some (a[j]'hj):=Qa1 hj;have hx32:a[j]'hj<4294967296:=ha _ (Qi0 _);have hat:bH a j=a[j]'hj:=by simp[bH,hx]
   generalize a[j]'hj=x at hx hx32 hat;have hr:=Mm a o k z s j r x hk hs hz hx hx32 la h2 h3;refine .inl ⟨(o++[(r+x*2 ^ s) % 4294967296],j+1,(r+x*2 ^ s) / 4294967296),Ex.of hr,by simp only;omega,by simp only;omega,?_,?_,?_,?_⟩
   ·simp only[Qb0,Qf2,Qs0];omega
   ·simp only;rw[Qu0 ae];have h6:x*2 ^ s+2 ^ s<=4294967296*2 ^ s:=by rw[<-Nat.succ_mul];exact Qf0 _ hx32
    rw[Qk2 (2 ^ s) 4294967296];omega
   ·exact iM h4 (fun y hy=>by simp at hy;subst hy;exact Qu1 _ ae)
   ·simp only;rw[val_append,h2,eU,hat,<-Qr0,Qn2];have hv:val [(r+x*2 ^ s) % 4294967296]=(r+x*2 ^ s) % 4294967296:=by simp[val]
    rw[hv,left_step h5 rfl,Qz1];generalize 4294967296 ^ z=p;generalize 4294967296 ^ j=q;generalize 2 ^ s=t;grind
  ·have he:j=a.length:=ae;subst he;rw[gF (Qd2 _)]at h5;refine .inr ⟨_,Ex.of (n:=60) ?_,?_,o,r,h4,h2,h3,h5,rfl⟩
   ·unfold ZE;simp[leB,f267]
   ·simp
 ·refine⟨aC,aC,Qt2 ae,?_,?_⟩
  ·intro x hx;have:=Xf2 hx;omega
  ·simp[Qz,cu,val]
theorem Bg (a:List Nat)(k:Nat)(hk:k<=3200000000)(la:a.length<=100000000)(ha:bY a) :
  Ca E0 agO [.d (LD a),dI k] (.d (LD (enc (val a*2 ^ k))),none):=by
 obtain⟨z,s,hzs,hs⟩:∃ z s,k=32*z+s/\s<32:=⟨k / 32,k % 32,ae,ae⟩
 have hz:z<=100000000:=ae;obtain⟨r,hl,o,q,ho,hol,hq,hv,rfl⟩:=QA a k z s hzs hs hz la ha;have hp:2 ^ s<=2147483648:=by
  have:=Qv0 (n:=2) ae (show s<=31 by omega);simpa using this
 have amo:q<4294967296:=ae;have hres:val (o++[q])=val a*2 ^ k:=by
  have e:2 ^ (32*z+s)=4294967296 ^ z*2 ^ s:=by rw[Qz1,X52]
  have hv2:val [q]=q:=by simp[val]
  rw[val_append,hol,hzs,e,hv2,Qk2 _ q,hv,Qk2]
 have hlim:bY (o++[q]):=iM ho (fun y hy=>by simp at hy;omega);obtain⟨n0,hc⟩:=(iL (o++[q]) (by simp;omega)).get;rw[dm hlim,hres]at hc;have Tv:LL (o++[q])=LL o++[.v (.int .u32 (q:Int))]:=by simp[LL]
 have hlo:(LL o).length=z+a.length:=by simp[LL,hol]
 have hla:(LL a).length=a.length:=by simp[LL]
 have htk:(LL o).take (z+a.length)=LL o:=Qe1 ae;have ajC:(LL o++[D.v (.int .u32 (q:Int))]).take (z+a.length+1)=LL o++[.v (.int .u32 (q:Int))]:=Qe1 (by simp;omega);have hz0:LL (List.replicate z 0)=List.replicate z (.v (.int .u32 0)):=by simp[LL]
 have w5:ak .u32 (q:Int)=(q:Int):=wrap_u32 ae;have hm1:(z+a.length+1)*4<=most:=by simp[most];omega
 have hm2:z+a.length+1<=most:=by simp[most];omega
 generalize enc (val a*2 ^ k)=res at*;refine Ca.body (o:=.ret) (st1:=(st0 (.u::.u::.d (LD res)::rX) ([.h_ (a.length+1) 1 (LL (o++[q]))]))) rfl (aO 267 f267:E0.fn _=_) rfl ?_ (by intro id h;cases h) ?_
 ·show Ex E0 (.seq FD.body.l (.seq FD.body.r.l (.seq FD.body.r.r.l (.seq (.seq FD.body.r.r.r.l.l (.block 0 (.loop leB))) FD.body.r.r.r.r)))) _ _;refine Ex.seq (st1:=(st0 (.d (LD a)::dI k::zW) [])) (Ex.of (n:=40) ?_)
   (Ex.seq (st1:=(st0 (.d (LD a)::dI k::.u::.ls (.loc 0) 0 1 0 z::uV) [.row 0 1 (LL (List.replicate z 0))])) (Ex.of (n:=40) ?_)
   (Ex.seq (st1:=(st0 (.d (LD a)::dI k::.u::.ls (.loc 0) 0 1 0 z::.d (.v (.int .u64 0))::n_) [.row 0 1 (LL (List.replicate z 0))])) (Ex.of (n:=40) ?_)
   (Ex.seq (Ex.seq (Ex.of (n:=40) ?_) hl.block) (Ex.of (n:=n0+40) ?_))))
  ·simp[f267]
  ·have v1:Int.tdiv (k:Int) 32=(z:Int):=by rw[Q72 ae];omega
   have v2:ak .i64 (z:Int)=(z:Int):=wrap_i64 ae;have v3:ak .i64 ((z:Int)+(a.length:Int))=(z:Int)+(a.length:Int):=wrap_i64 ae;have v4:ak .i64 ((z:Int)+(a.length:Int)+1)=(z:Int)+(a.length:Int)+1:=wrap_i64 ae;have v5:(z:Int)<=(z:Int)+(a.length:Int)+1:=ae;have v6:((z:Int)+(a.length:Int)+1)*4<=1099511627776:=ae;have v7:(z:Int)+(a.length:Int)+1<=1099511627776:=ae;rw[hz0];clear hl;simp only[LD];generalize LL a=xs,a.length=m at*;simp[f267,hla,v1,v2,v3,v4,v5,v6,v7,most]
  ·simp[f267]
  ·unfold ZE;simp[f267,LD,hla]
  ·unfold ZE;rw[Tv];simp only[LD]at hc ⊢;rw[Tv]at hc;clear hl;generalize LL o=es,z+a.length=m at*;simp[ah.view,f267,hlo,htk,ajC,hm1,hm2,w5,hc]
 ·simp[f267,LD]
abbrev adv:Nat:=268
abbrev BZ:bO:=f268
def riD (a:List Nat)(s i:Nat):Nat:=(bH a i+4294967296*bH a (i+1)) / 2 ^ s % 4294967296
theorem Ju {x y V s:Nat}(hs:s<32)(hx:x<4294967296) :
  (x+4294967296*(y+4294967296*V)) / 2 ^ s=(x+4294967296*y) / 2 ^ s % 4294967296+4294967296*((y+4294967296*V) / 2 ^ s):=by
 have hp:0<2 ^ s:=Qt2 ae;have hq:2 ^ s*2 ^ (32-s)=4294967296:=by rw[<-Qz1,show s+(32-s)=32 by omega]
 generalize 2 ^ s=p,2 ^ (32-s)=q at*;have h1:=Nat.mod_add_div ((x+4294967296*(y+4294967296*V)) / p) 4294967296;have h2:(x+4294967296*(y+4294967296*V)) / p / 4294967296=(y+4294967296*V) / p:=by
  rw[Q02,Qk2 p,<-Q02]
  congr 1
  omega
 have h3:(x+4294967296*(y+4294967296*V)) / p=(x+4294967296*y) / p+4294967296*(q*V):=by
  have e:x+4294967296*(y+4294967296*V)=(x+4294967296*y)+p*(4294967296*(q*V)):=by
   have:4294967296*(4294967296*V)=p*(4294967296*(q*V)):=by rw[<-hq];grind
   omega
  rw[e,X20 _ _ hp]
 have h4:(x+4294967296*(y+4294967296*V)) / p % 4294967296=(x+4294967296*y) / p % 4294967296:=by rw[h3,Nat.add_mul_mod_self_left]
 rw[h2,h4]at h1;exact h1.symm
def riB:aF:=BZ.body.r.r.l.r.bl.lp
def Ut (a o:List Nat)(k i j:Nat)(t:FV):St:=(st0 [.d (LD a),dI k,.u,eD j,dI i,t] (eF j (LL o)))
theorem QB (a o:List Nat)(k i j:Nat)(hi:¬ i<a.length):EX E0 60 riB (Ut a o k i j .u)=some (.exit 0,Ut a o k i j (dB false)):=by
 have hla:(LL a).length=a.length:=by simp[LL]
 unfold Ut;simp only[LD];generalize LL a=xs,eD j=ov,eF j (LL o)=oh at*;simp[riB,f268,hla,hi]
theorem Jv (a o:List Nat)(k z s i j:Nat)(hk:k=32*z+s)(hs:s<32)(hz:z<=100000000)(hi:i<a.length)(la:a.length<=100000000)(ha:bY a)(ho:o.length=j)(hj:j<=100000000) :
  EX E0 80 riB (Ut a o k i j .u)=some (.norm,Ut a (o++[riD a s i]) k (i+1) (j+1) .u):=by
 have hla:(LL a).length=a.length:=by simp[LL]
 have h1:=fun m=>kK m a ae (i+1) ae ha
 have h2:=fun m=>kK m a ae i ae ha
 have xa:=dx ha i;have xb:=dx ha (i+1);have hk1:((i+1:Nat):Int)=(i:Int)+1:=ae;have aW:ak .i64 ((i:Int)+1)=(i:Int)+1:=wrap_i64 ae;simp only[LD,hk1]at h1 h2;unfold riD;generalize bH a i=x,bH a (i+1)=y at*;have w1:=Ul xb;have w2:=BS xb xa;obtain⟨P,hP⟩:∃ P:Nat,(P:Int)=(y:Int)*4294967296:=⟨y*4294967296,ae⟩
 obtain⟨T,hT⟩:∃ T:Nat,T=x+4294967296*y:=⟨_,rfl⟩
 have hT2:(y:Int)*4294967296+(x:Int)=(T:Int):=ae;rw[hT2,<-hP]at w2;rw[<-hP]at w1;rw[<-hT];have w3:Int.fdiv (T:Int) (2 ^ (min s 64))=((T / 2 ^ s:Nat):Int):=by
  rw[show min s 64=s by omega,Ql2 _ (Int.pow_nonneg ae),X02];simp
 have w4:Int.tmod (k:Int) 32=(s:Int):=by rw[Xd2 ae];omega
 have hTq:T / 2 ^ s<18446744073709551616:=Xa2 (Xm0 _ _) ae;generalize T / 2 ^ s=Q at*;have w5:ak .u32 (Q:Int)=((Q % 4294967296:Nat):Int):=by rw[dU];omega
 have hs0:¬ ((s:Int)<0):=ae;have Tv:LL (o++[Q % 4294967296])=LL o++[.v (.int .u32 ((Q % 4294967296:Nat):Int))]:=by simp[LL]
 have hol:(LL o).length=j:=by simp[LL,ho]
 have hv1:eD (j+1)=.ls (.loc 0) j 1 0 (j+1):=by simp[eD]
 have E5:∀ l,eF (j+1) l=[.row j 1 l]:=by intro l;simp[eF]
 have hm1:(j+1)*4<=most:=by simp[most];omega
 have hm2:j+1<=most:=by simp[most];omega
 have htk:(LL o).take j=LL o:=Qe1 ae;clear hP hT hT2 hTq;unfold Ut;rw[Tv,hv1,E5,hk1];generalize Q % 4294967296=lo at*
 by_cases hj0:j=0
 ·have hv:eD j=.d (.n 1):=by simp[eD,hj0]
  have hh:∀ l,eF j l=[]:=by intro l;simp[eF,hj0]
  have hLo:LL o=[]:=Qo1 ae;have hvk:FV.ls (.loc 0) 0 1 0 1=FV.ls (.loc 0) j 1 0 (j+1):=by rw[hj0]
  have hhk:∀ l,ah.row 0 1 l=ah.row j 1 l:=by intro l;rw[hj0]
  rw[hv,hh,hLo,<-hvk,<-hhk];simp only[LD];generalize LL a=xs at*;simp[IntKind.bits,riB,f268,hla,hi,h1,h2,aW,hs0,w1,w2,w3,w4,w5,most]
 ·have hv:eD j=.ls (.loc 0) (j-1) 1 0 j:=by simp[eD,hj0]
  have hh:∀ l,eF j l=[.row (j-1) 1 l]:=by intro l;simp[eF,hj0]
  have hk2:j-1+1=j:=ae;rw[hv,hh];simp only[LD];generalize LL a=xs,LL o=es at*;simp[IntKind.bits,riB,f268,hla,hi,h1,h2,aW,hs0,w1,w2,w3,w4,w5,hm1,hm2,hol,htk,hk2]
theorem Mq (a:List Nat)(k z s:Nat)(hk:k=32*z+s)(hs:s<32)(hz:z<=100000000)(la:a.length<=100000000)(ha:bY a) :
  ∃ r,Ex E0 (.loop riB) (Ut a [] k z 0 .u) r/\∃ o i,bY o/\o.length<=a.length/\val o=val (a.drop z) / 2 ^ s/\r=(.exit 0,Ut a o k i o.length (dB false)):=by
 refine Ex.inv (S:=fun t:List Nat × Nat=>Ut a t.1 k (z+t.2) t.2 .u) (fun t=>a.length-t.2)
  (fun t=>t.1.length=t.2/\(t.2=0\/z+t.2<=a.length)/\bY t.1/\val t.1+4294967296 ^ t.2*(val (a.drop (z+t.2)) / 2 ^ s)=val (a.drop z) / 2 ^ s) _ ?_ ([],0) ?_
 ·rintro⟨o,j⟩ ⟨h1,h2,h3,h4⟩;simp only at h1 h2 h3 h4
  by_cases hi:z+j<a.length
  ·have hr:=Jv a o k z s (z+j) j hk hs hz hi la ha h1 ae;refine .inl ⟨(o++[riD a s (z+j)],j+1),?_,by simp only;omega,?_,?_,?_,?_⟩
   ·simp only;rw[<-Qr0];exact Ex.of hr
   ·simp[h1]
   ·simp only;omega
   ·exact iM h3 (fun y hy=>by simp at hy;subst hy;exact Qu1 _ ae)
   ·simp only;rw[val_append,h1,<-h4,<-Qr0,jo a (z+j),jo a (z+j+1),Ju hs (dx ha _),Qn2];have hv:val [riD a s (z+j)]=riD a s (z+j):=by simp[val]
    rw[hv];unfold riD;rw[Xb2,Q21];omega
  ·rw[iN ae,Nat.zero_div,Nat.mul_zero,Q52]at h4;refine .inr ⟨_,Ex.of (QB a o k (z+j) j hi),aC,o,z+j,h3,ae,h4,by rw[h1]⟩
 ·refine⟨rfl,.inl rfl,?_,by simp[val]⟩;intro x hx;cases hx
theorem Jw:∀ (a:List Nat) (z:Nat),bY a->val (a.drop z)=val a / 4294967296 ^ z
 | a,0,_=>by simp
 | [],z+1,_=>by simp[val]
 | x::r,z+1,h=>by
  have hx:=h x (Qi2 ..);have e:(x+4294967296*val r) / (4294967296 ^ z*4294967296)=(x+4294967296*val r) / 4294967296 / 4294967296 ^ z:=by
   rw[Qk2 (4294967296 ^ z) 4294967296,Q02]
  have e2:(x+4294967296*val r) / 4294967296=val r:=ae;rw[List.drop_succ_cons,Jw r z (fun y hy=>h y (Qg2 _ hy)),val,Qn2,e,e2]
theorem Uu (a:List Nat)(k:Nat)(hk:k<=3200000000)(la:a.length<=100000000)(ha:bY a) :
  Ca E0 adv [.d (LD a),dI k] (.d (LD (enc (val a / 2 ^ k))),none):=by
 obtain⟨z,s,hzs,hs⟩:∃ z s,k=32*z+s/\s<32:=⟨k / 32,k % 32,ae,ae⟩
 have hz:z<=100000000:=ae;obtain⟨r,hl,o,i,ho,hol,hv,rfl⟩:=Mq a k z s hzs hs hz la ha;have hres:val o=val a / 2 ^ k:=by
  rw[hv,Jw a z ha,Q02,hzs,Qz1,X52]
 obtain⟨n0,hc⟩:=(iL o ae).get;rw[dm ho,hres]at hc;have hlo:(LL o).length=o.length:=by simp[LL]
 generalize enc (val a / 2 ^ k)=res at*;refine Ca.body (o:=.ret) (st1:=(st0 (.u::.u::.d (LD res)::u3K) (if o.length=0 then [] else [.h_ (o.length-1) 1 (LL o)]))) rfl (aO 268 f268:E0.fn _=_) rfl ?_ (by intro id h;cases h) ?_
 ·show Ex E0 (.seq BZ.body.l (.seq BZ.body.r.l (.seq (.seq BZ.body.r.r.l.l (.block 0 (.loop riB))) BZ.body.r.r.r))) _ _;refine Ex.seq (st1:=(st0 (.d (LD a)::dI k::wW) [])) (Ex.of (n:=40) ?_)
   (Ex.seq (st1:=(st0 [.d (LD a),dI k,.u,.d (.n 1),.u,.u] [])) (Ex.of (n:=40) ?_)
   (Ex.seq (Ex.seq (Ex.of (n:=40) ?_) hl.block) (Ex.of (n:=n0+40) ?_)))
  ·simp[f268]
  ·simp[f268]
  ·have v1:Int.tdiv (k:Int) 32=(z:Int):=by rw[Q72 ae];omega
   have v2:ak .i64 (z:Int)=(z:Int):=wrap_i64 ae;unfold Ut;simp[f268,v1,v2,eD,eF]
  ·unfold Ut;simp only[LD]at hc ⊢
   by_cases hk0:o.length=0
   ·have hLo:LL o=[]:=Qo1 ae;have hv1:eD o.length=.d (.n 1):=by simp[eD,hk0]
    have E5:∀ l,eF o.length l=[]:=by intro l;simp[eF,hk0]
    rw[if_pos hk0,hv1,E5];rw[hLo]at hc;clear hl;simp[f268,hc]
   ·have htk:(LL o).take o.length=LL o:=Qe1 ae;have hv1:eD o.length=.ls (.loc 0) (o.length-1) 1 0 o.length:=by simp[eD,hk0]
    have E5:∀ l,eF o.length l=[.row (o.length-1) 1 l]:=by intro l;simp[eF,hk0]
    rw[if_neg hk0,hv1,E5];clear hl;generalize LL o=es,o.length=m at*;simp[ah.view,f268,hlo,htk,hc]
 ·simp[f268,LD]
set_option maxRecDepth 100000
abbrev adx:Nat:=303
abbrev agP:Nat:=287
abbrev alI:bO:=f287
abbrev ZF:Nat:=266
abbrev ajf:bO:=f266
def gT (x:Nat):Nat:=if x=0 then 0 else Nat.log2 x+1
def qm:ByteArray:=⟨#[0,1,2,2,3,3,3,3,4,4,4,4,4,4,4,4,5,5,5,5,5,5,5,5,5,5,5,5,5,5,5,5,6,6,6,6,6,6,6,6,6,6,6,6,6,6,6,6,6,6,6,6,6,6,6,6,6,6,6,6,6,6,6,6,7,7,7,7,7,7,7,7,7,7,7,7,7,7,7,7,7,7,7,7,7,7,7,7,7,7,7,7,7,7,7,7,7,7,7,7,7,7,7,7,7,7,7,7,7,7,7,7,7,7,7,7,7,7,7,7,7,7,7,7,7,7,7,7,8,8,8,8,8,8,8,8,8,8,8,8,8,8,8,8,8,8,8,8,8,8,8,8,8,8,8,8,8,8,8,8,8,8,8,8,8,8,8,8,8,8,8,8,8,8,8,8,8,8,8,8,8,8,8,8,8,8,8,8,8,8,8,8,8,8,8,8,8,8,8,8,8,8,8,8,8,8,8,8,8,8,8,8,8,8,8,8,8,8,8,8,8,8,8,8,8,8,8,8,8,8,8,8,8,8,8,8,8,8,8,8,8,8,8,8,8,8,8,8,8,8,8,8,8,8,8,8]⟩
def Jy (t:ByteArray):bO:={np:=1,nv:=4,ref:=false,res:=[.var 1],body:=(.seq (.region [⟨false,none,.Bh (.c (vI 0))⟩] [(1,0)] []) (.seq (.seq (.region [⟨false,none,.Bh (.var 0)⟩,⟨false,none,.bin .geq (.loc 0) (.c (.v (.int .u32 65536)))⟩] [(2,1)] []) (.cond (.var 2) (.seq (.seq (.region [⟨false,none,.Bh (.var 0)⟩,⟨false,none,.bin .shr (.loc 0) (.c (.v (.int .u64 16)))⟩,⟨false,none,.Bh (.loc 1)⟩] [(0,2)] []) (.kill [1,2])) (.region [⟨false,none,.Bh (.c (vI 16))⟩] [(1,0)] [])) .skip)) (.seq (.seq (.seq (.region [⟨false,none,.Bh (.var 0)⟩,⟨false,none,.bin .geq (.loc 0) (.c (.v (.int .u32 256)))⟩] [(3,1)] []) (.kill [2])) (.cond (.var 3) (.seq (.seq (.region [⟨false,none,.Bh (.var 0)⟩,⟨false,none,.bin .shr (.loc 0) (.c (.v (.int .u64 8)))⟩,⟨false,none,.Bh (.loc 1)⟩] [(0,2)] []) (.kill [3])) (.region [⟨false,none,.Bh (.var 1)⟩,⟨false,none,.bin .add (.loc 0) (.c (vI 8))⟩,⟨false,none,.Bh (.loc 1)⟩] [(1,2)] [])) .skip)) (.seq (.seq (.region [⟨false,none,.Bh (.var 1)⟩,⟨false,none,.Bh (.var 0)⟩,⟨false,none,.conv .u8 (.loc 1)⟩,⟨false,none,.vO (.c (.v (.string t))) (.loc 2)⟩,⟨false,none,.conv .i64 (.loc 3)⟩,⟨false,none,.bin .add (.loc 0) (.loc 4)⟩,⟨false,none,.Bh (.loc 5)⟩] [(1,6)] []) (.kill [0,3])) .ret))))}
theorem ZG:f303=Jy qm:=rfl
theorem ZH:((List.range 256).all fun i=>match qm[i]? with|some b=>Nat.beq b.toNat (gT i)|none=>false)=true:=by kernel_rfl
theorem ZI {i:Nat}(h:i<256):∃ b:UInt8,qm[i]?=some b/\b.toNat=gT i:=by
 have:=ady ZH h;cases hb:qm[i]? with
 | none=>rw[hb]at this;cases this
 | some b=>rw[hb]at this;exact⟨b,rfl,Ql0 this⟩
theorem vQ {x s:Nat}(h:2 ^ s<=x):gT x=gT (x / 2 ^ s)+s:=by
 have hp:0<2 ^ s:=Qt2 ae;have h1:0<x / 2 ^ s:=Xy1 h hp;unfold gT;rw[if_neg ae,if_neg ae];have h2:Nat.log2 x=Nat.log2 (x / 2 ^ s)+s:=by
  rw[Nat.log2_eq_iff ae];have a1:=Nat.log2_self_le (n:=x / 2 ^ s) ae;have a2:=Nat.lt_log2_self (n:=x / 2 ^ s);constructor
  ·rw[Qz1];exact Qc1 (Qf0 _ a1) (X50 x (2 ^ s))
  ·rw[show Nat.log2 (x / 2 ^ s)+s+1=(Nat.log2 (x / 2 ^ s)+1)+s by omega,Qz1];exact(Qu0 hp).1 a2
 omega
theorem Fy {E:Env}{st:St}{rec:Nat->List FV->List ah->bJ}{env:List FV}{draw:Bool}{x i:Arg}:RK E rec draw st env (.vO x i)=runK E rec draw st env (.vO x i):=df ..
theorem wrap_u8 {z:Int}(h:0<=z/\z<256):ak .u8 z=z:=by
 rw[cZ];simp only[IntKind.wrap,IntKind.bits,IntKind.signed];simp;omega
theorem Bi {x:Nat}(h:x<4294967296):gT x<=32:=by
 unfold gT;split
 ·omega
 ·have:=(Nat.log2_lt (n:=x) (k:=32) ae).2 ae;omega
theorem QC (n x:Nat)(hx:x<4294967296):CL E0 (n+40) adx [.d (.v (.int .u32 x))] []=some (dI (gT x),none):=by
 rw[aA rfl ((aO 303 f303:E0.fn _=_).trans (congrArg some ZG)) rfl];have fin:∀ (y m:Nat),y<256->m<=24->gT x=gT y+m->∃ b:UInt8,qm[y]?=some b/\ak .u8 (y:Int)=(y:Int)/\ak .i64 ((b.toNat:Nat):Int)=((b.toNat:Nat):Int) /\
   ak .i64 ((m:Int)+((b.toNat:Nat):Int))=(gT x:Int):=by
  intro y m hy hm he;obtain⟨b,h1,h2⟩:=ZI hy;have hb:=b.toNat_lt;exact⟨b,h1,wrap_u8 ae,wrap_i64 ae,by rw[wrap_i64 ae];omega⟩
 by_cases hA:65536<=x
 ·have hA':(65536:Int)<=(x:Int):=ae;have w1:Int.fdiv (x:Int) 65536=((x / 65536:Nat):Int):=by rw[Ql2 _ ae];omega
  have e1:gT x=gT (x / 65536)+16:=vQ (s:=16) ae;have hx1:x / 65536<65536:=ae;generalize x / 65536=x1 at*
  by_cases hB:256<=x1
  ·have hB':(256:Int)<=(x1:Int):=ae;have w2:Int.fdiv (x1:Int) 256=((x1 / 256:Nat):Int):=by rw[Ql2 _ ae];omega
   have e2:gT x1=gT (x1 / 256)+8:=vQ (s:=8) ae;have hx2:x1 / 256<256:=ae;generalize x1 / 256=x2 at*;obtain⟨b,f1,f2,f3,f4⟩:=fin x2 24 hx2 ae ae;have w3:ak .i64 24=24:=wrap_i64 ae;have hp:(0:Int)<=(x2:Int):=ae;generalize qm=tb at*;simp[IntKind.bits,Jy,hA',hB',w1,w2,w3,f1,f2,f3,hp];simpa using f4
  ·have hB':¬ (256:Int)<=(x1:Int):=ae;obtain⟨b,f1,f2,f3,f4⟩:=fin x1 16 ae ae ae;have hp:(0:Int)<=(x1:Int):=ae;generalize qm=tb at*;simp[IntKind.bits,Jy,hA',hB',w1,f1,f2,f3,hp];simpa using f4
 ·have hA':¬ (65536:Int)<=(x:Int):=ae
  by_cases hB:256<=x
  ·have hB':(256:Int)<=(x:Int):=ae;have w2:Int.fdiv (x:Int) 256=((x / 256:Nat):Int):=by rw[Ql2 _ ae];omega
   have e2:gT x=gT (x / 256)+8:=vQ (s:=8) ae;have hx2:x / 256<256:=ae;generalize x / 256=x2 at*;obtain⟨b,f1,f2,f3,f4⟩:=fin x2 8 hx2 ae ae;have w3:ak .i64 8=8:=wrap_i64 ae;have hp:(0:Int)<=(x2:Int):=ae;generalize qm=tb at*;simp[IntKind.bits,Jy,hA',hB',w2,w3,f1,f2,f3,hp];simpa using f4
  ·have hB':¬ (256:Int)<=(x:Int):=ae;obtain⟨b,f1,f2,f3,f4⟩:=fin x 0 ae ae ae;have hp:(0:Int)<=(x:Int):=ae;generalize qm=tb at*;simp[Jy,hA',hB',f1,f2,f3,hp];simpa[f3] using f4
theorem Uv (n x:Nat)(hx:x<4294967296):CL E0 (n+80) agP [.d (.v (.int .u32 x))] []=some (dI ((32-gT x:Nat):Int),none):=by
 have t:=fun m=>QC m x hx
 have hb:=Bi hx;have w:ak .i64 (32-(gT x:Int))=((32-gT x:Nat):Int):=by rw[wrap_i64 ae];omega
 rw[aA rfl (aO 287 f287:E0.fn _=_) rfl];generalize gT x=bl at*;generalize 32-bl=r at*;simp[f287,t,w]
theorem Mr (n:Nat)(b:List Nat)(x:Nat)(hx:x<4294967296)(hl:b.length<=100000000) :
  CL E0 (n+120) ZF [.d (LD (b++[x]))] []=some (dI ((32*b.length+gT x:Nat):Int),none):=by
 have t:=fun m=>Uv m x hx
 have hb:=Bi hx;have hlen:(LL (b++[x])).length=b.length+1:=by simp[LL]
 have hget:(LL (b++[x]))[b.length]?=some (.v (.int .u32 (x:Int))):=by simp[LL]
 have hb0:(((b.length:Int)+1)==0)=false:=by simp;omega
 have w1:ak .i64 (b.length:Int)=(b.length:Int):=wrap_i64 ae;have w2:ak .i64 (32*((b.length:Int)+1))=32*((b.length:Int)+1):=wrap_i64 ae;have w3:ak .i64 (32*((b.length:Int)+1)-((32-gT x:Nat):Int))=((32*b.length+gT x:Nat):Int):=by rw[wrap_i64 ae];omega
 rw[aA rfl (aO 266 f266:E0.fn _=_) rfl];generalize 32*b.length+gT x=res,32-gT x=r at*;simp only[LD];generalize LL (b++[x])=es at*;have BO:=idx hget;generalize b.length=m at*;simp[f266,hlen,BO,hb0,w1,w2,w3,t]
end Fi.S
