import Derived.Test.YtkekcmgkpdkieaaGreatDoorCN
set_option linter.unusedVariables false
set_option linter.unusedSimpArgs false
noncomputable section
namespace Fi.S
open Go Fi
set_option maxHeartbeats 8000000
def pK:List bz->gp->Rat->List bz
 | [],e,c=>[(e,c)]
 | p::r,e,c=>if lM p.1 e=true then p::pK r e c else if p.1=e then(if c+p.2=0 then r else(e,c+p.2)::r) else(e,c)::p::r
def nL (l:List bz)(e:gp)(c:Rat):List bz:=if bT e=true/\c≠0 then pK l e c else l
theorem Du {l:List bz}{e:gp}{c:Rat}{p:bz}(h:p ∈ pK l e c):p=(e,c)\/p ∈ l\/∃ y,(e,y) ∈ l/\p=(e,c+y)/\c+y≠0:=by
 induction l with
 | nil=>exact .inl (by simpa[pK] using h)
 | cons q r ih =>
  unfold pK at h;split at h
  ·rcases Qj0.1 h with rfl|h
   ·exact .inr (.inl (Qj2 ..))
   ·rcases ih h with h|h|⟨y,h1,h2⟩
    ·exact .inl h
    ·exact .inr (.inl (Qg2 _ h))
    ·exact .inr (.inr ⟨y,Qg2 _ h1,h2⟩)
  ·split at h
   ·rename_i he;split at h
    ·exact .inr (.inl (Qg2 _ h))
    ·rename_i hn;rcases Qj0.1 h with rfl|h
     ·obtain⟨a,y⟩:=q;simp only at he;subst he;exact .inr (.inr ⟨y,Qj2 ..,rfl,hn⟩)
     ·exact .inr (.inl (Qg2 _ h))
   ·rcases Qj0.1 h with rfl|h
    ·exact .inl rfl
    ·exact .inr (.inl h)
theorem VR {l:List bz}{e:gp}{c:Rat}(e':gp):tot (pK l e c) e'=tot l e'+if e=e' then c else 0:=by
 induction l with
 | nil=>simp only[pK,tot];grind
 | cons q r ih =>
  obtain⟨a,y⟩:=q;unfold pK;split
  ·simp only[tot,ih];grind
  ·split
   ·rename_i he;simp only at he;subst he;split
    ·rename_i h0;simp only[tot]
     by_cases h:a=e'
     ·subst h;simp only[if_true];grind
     ·simp only[if_neg h];grind
    ·simp only[tot]
     by_cases h:a=e'
     ·subst h;simp only[if_true];grind
     ·simp only[if_neg h];grind
   ·simp only[tot];grind
theorem VS {l:List bz}{e:gp}{c:Rat}(h:Srt l):Srt (pK l e c):=by
 induction l with
 | nil=>exact Qn1.2 ⟨fun _ h=>(by cases h),List.Pairwise.nil⟩
 | cons q r ih =>
  have h':=Qn1.1 h;unfold pK;split
  ·rename_i hlt;refine Qn1.2 ⟨fun p hp => ?_,ih h'.2⟩;rcases Du hp with rfl|hp|⟨y,_,rfl,_⟩
   ·exact hlt
   ·exact h'.1 p hp
   ·exact hlt
  ·rename_i hlt;split
   ·rename_i he;split
    ·exact h'.2
    ·refine Qn1.2 ⟨fun p hp => ?_,h'.2⟩;have:=h'.1 p hp;rw[he]at this;exact this
   ·rename_i hne;have hq:lM e q.1=true:=by
     cases h1:lM e q.1 with
     | true=>rfl
     | false=>exact absurd (kM (by simpa using hlt) h1) hne
    refine Qn1.2 ⟨fun p hp => ?_,h⟩;rcases Qj0.1 hp with rfl|hp
    ·exact hq
    ·exact pJ hq (h'.1 p hp)
theorem Dv (l:List bz)(e:gp)(c:Rat)(e':gp):tot (nL l e c) e'=tot l e'+if bT e=true/\e=e' then c else 0:=by
 unfold nL;split
 ·rename_i h;rw[VR]
  by_cases h2:e=e'
  ·rw[if_pos h2,if_pos ⟨h.1,h2⟩]
  ·rw[if_neg h2,if_neg (fun h3=>h2 h3.2)]
 ·rename_i h;split
  ·rename_i h2;have:c=0:=Classical.byContradiction fun h3=>h ⟨h2.1,h3⟩
   subst this;grind
  ·grind
theorem aaE {S T U:Nat}{l:List bz}{e:gp}{c:Rat}(h:PV S l)(hS:1<=S)(hT:qz c<=T)(hU:∀ e',qz (tot l e'+if bT e=true/\e=e' then c else 0)<=U):PV U (nL l e c):=by
 have hs:Srt (nL l e c):=by
  unfold nL;split
  ·exact VS h.Nt
  ·exact h.Nt
 refine⟨hs,fun p hp => ?_,fun p hp => ?_,fun p hp => ?_⟩
 ·unfold nL at hp;split at hp
  ·rename_i hh;rcases Du hp with rfl|hp|⟨y,_,rfl,hn⟩
   ·exact hh.2
   ·exact h.nz p hp
   ·exact hn
  ·exact h.nz p hp
 ·unfold nL at hp;split at hp
  ·rename_i hh;rcases Du hp with rfl|hp|⟨y,_,rfl,hn⟩
   ·exact hh.1
   ·exact h.fits p hp
   ·exact hh.1
  ·exact h.fits p hp
 ·have h1:=uO (jy hs) hp;rw[Dv]at h1;rw[<-h1];exact hU _
theorem F4 (e:gp):∀ l:List bz,∃ a b:List bz,l=a++b/\(∀ p ∈ a,lM p.1 e=true)/\(∀ p r,b=p::r->lM p.1 e=false)/\∀ c,pK l e c=a++pK b e c
 | []=>⟨[],[],rfl,fun _ h=>(by cases h),fun _ _ h=>(by cases h),fun _=>rfl⟩
 | q::l=>by
  cases hq:lM q.1 e with
  | true =>
   obtain⟨a,b,h1,h2,h3,h4⟩:=F4 e l;refine⟨q::a,b,by rw[h1];rfl,fun p hp => ?_,h3,fun c => ?_⟩
   ·rcases Qj0.1 hp with rfl|hp
    ·exact hq
    ·exact h2 p hp
   ·show(if lM q.1 e=true then q::pK l e c else _)=_;rw[if_pos hq,h4];rfl
  | false=>exact⟨[],q::l,rfl,fun _ h=>(by cases h),fun p r h=>by cases h;exact hq,fun _=>rfl⟩
theorem BL (d e:gp):(0<jv d e)↔lM e d=true:=by
 obtain⟨a,b,c⟩:=d;obtain⟨a',b',c'⟩:=e;unfold lM jv fP;simp only[decide_eq_true_eq]
 repeat' split
 all_goals first|omega|simp_all|(simp_all;omega)
theorem Dw (d e:gp):jv d e=0↔d=e:=by
 constructor
 ·intro h;have h1:lM d e=false:=by unfold lM;simp;omega
  have h2:lM e d=false:=by
   cases h3:lM e d with
   | false=>rfl
   | true=>have:=(BL d e).2 h3;omega
  exact kM h1 h2
 ·rintro rfl;have h1:=eU d;have h2:¬ 0<jv d d:=fun h=>by rw[BL,h1]at h;cases h
  unfold lM at h1;simp at h1;omega
def Zf:aG:=f84.body.r.r.r.l.bl.lp
def Aw (es:List D)(i:Nat)(t5 t6 t7 t8 t9:FV)(L:List ai):St :=
 (st0 [.d (.s 6 es),.u,rL 0,.u,dI i,t5,t6,t7,t8,t9] L)
theorem VT (es:List D)(i:Nat)(p:bz)(e:gp)(c:Rat)(hi:es[i]?=some (qC p.1 p.2))(hn:es.length<=1000000)(hlt:lM p.1 e=true):Ex E1 Zf (Aw es i .u .u .u .u .u [oq (e,c)]) (.norm,Aw es (i+1) .u .u .u .u .u [oq (e,c)]):=by
 have hil:i<es.length:=(aU hi)
 have aS:ak .i64 ((i:Int)+1)=(i:Int)+1:=wrap_i64 ae;have hk1:((i+1:Nat):Int)=(i:Int)+1:=ae;have hk0:(0:Int)<=(i:Int):=ae;have hkc:(i:Int)<(es.length:Int):=ae;obtain⟨N,t⟩:=(Ca.gV (Ca.bQ (kL 0 e p.1))).get;have hpos:0<jv e p.1:=(BL _ _).2 hlt;refine Ex.of (n:=N+100) ?_;unfold Aw;rw[hk1];generalize jv e p.1=r at*;obtain⟨⟨a,b,c'⟩,x⟩:=p;obtain⟨a2,b2,c2⟩:=e;simp only[oq,qC,Bi,mG,LD]at*;generalize qs x=s,LL (qn x)=ns,LL (qd x)=ds,qs c=s',LL (qn c)=ns',LL (qd c)=ds' at*;have i1:=idx hi;simp[Zf,f84,aS,hk0,hkc,hil,hi,i1,t,hpos]
theorem aaF (es:List D)(e:gp)(c:Rat):Ex E1 Zf (Aw es es.length .u .u .u .u .u [oq (e,c)]) (.exit 0,Aw es es.length .u .u (dB false) .u .u [oq (e,c)]):=by
 refine Ex.of (n:=100) ?_;unfold Aw oq;simp[Zf,f84]
theorem aaG (es:List D)(i:Nat)(p:bz)(e:gp)(c:Rat)(hi:es[i]?=some (qC p.1 p.2))(hlt:lM p.1 e=false):Ex E1 Zf (Aw es i .u .u .u .u .u [oq (e,c)]) (.exit 0,Aw es i .u .u (dB false) .u .u [oq (e,c)]):=by
 have hil:i<es.length:=(aU hi)
 have hk0:(0:Int)<=(i:Int):=ae;have hkc:(i:Int)<(es.length:Int):=ae;obtain⟨N,t⟩:=(Ca.gV (Ca.bQ (kL 0 e p.1))).get;have hpos:¬ 0<jv e p.1:=fun h=>by rw[BL,hlt]at h;cases h
 refine Ex.of (n:=N+100) ?_;unfold Aw;generalize jv e p.1=r at*;obtain⟨⟨a,b,c'⟩,x⟩:=p;obtain⟨a2,b2,c2⟩:=e;simp only[oq,qC,Bi,mG,LD]at*;generalize qs x=s,LL (qn x)=ns,LL (qd x)=ds,qs c=s',LL (qn c)=ns',LL (qd c)=ds' at*;have i1:=idx hi;simp[Zf,f84,hk0,hkc,hil,hi,i1,t,hpos]
theorem aaH (a b:List bz)(e:gp)(c:Rat)(hn:(a++b).length<=1000000)(ha:∀ p ∈ a,lM p.1 e=true)(hb:∀ p r,b=p::r->lM p.1 e=false) :
  Ex E1 (.loop Zf) (Aw ((a++b).map fun p=>qC p.1 p.2) 0 .u .u .u .u .u [oq (e,c)]) (.exit 0,Aw ((a++b).map fun p=>qC p.1 p.2) a.length .u .u (dB false) .u .u [oq (e,c)]):=by
 have hlen:((a++b).map fun p=>qC p.1 p.2).length=(a++b).length:=aC;obtain⟨r,h1,rfl⟩:=Ex.inv (E:=E1) (b:=Zf) (S:=fun i:Nat=>Aw ((a++b).map fun p=>qC p.1 p.2) i .u .u .u .u .u [oq (e,c)]) (fun i=>a.length-i) (fun i=>i<=a.length)
  (fun r=>r=(.exit 0,Aw ((a++b).map fun p=>qC p.1 p.2) a.length .u .u (dB false) .u .u [oq (e,c)])) (by
   intro i hi
   by_cases h:i<a.length
   ·have hp:((a++b).map fun p=>qC p.1 p.2)[i]?=some (qC a[i].1 a[i].2):=by
     rw[Qc0,Qa0 h,Qa1 h];rfl
    exact .inl ⟨i+1,VT _ i a[i] e c hp (by rw[hlen];exact hn) (ha _ (Qi2 h)),ae,ae⟩
   ·obtain rfl:i=a.length:=ae;cases b with
    | nil =>
     have:=aaF (a.map fun p:bz=>qC p.1 p.2) e c;rw[Ql1]at this;simp only[Q11];exact .inr ⟨_,this,aC,rfl⟩
    | cons p r =>
     have hp:((a++p::r).map fun p=>qC p.1 p.2)[a.length]?=some (qC p.1 p.2):=by
      rw[Qc0,Qb1 (Qe1 _),Q51];rfl
     exact .inr ⟨_,aaG _ _ p e c hp (hb p r rfl),aC,rfl⟩) 0 (Qz2 _)
 exact h1
section
theorem VU {E:Env}{F:bM}{n:Nat}{c:aG}{st:St}{r:FV × Option (List ai)}(h:(match EX E n c st with|some (.exit _,_)=>none|some (_,st')=>finish F st'|none=>none)=some r) :
  ∃ o st',Ex E c st (o,st')/\(∀ id,o≠.exit id)/\finish F st'=some r:=by
 cases he:EX E n c st with
 | none=>rw[he]at h;cases h
 | some x =>
  obtain⟨o,st'⟩:=x;rw[he]at h;cases o with
  | exit id=>cases h
  | norm=>exact⟨_,_,Ex.of he,fun id hid=>(by cases hid),h⟩
  | ret=>exact⟨_,_,Ex.of he,fun id hid=>(by cases hid),h⟩
theorem j5 (az n:Nat)(es:List D)(h:n=es.length):ai.view az 6 0 n (.row az 6 es)=some es:=by
 subst h;simp[ai.view]
section put
variable (es:List D) (e:gp) (c:Rat)
def puA:St:=(st0 (.d (.s 6 es)::.u::rL 0::qi) [oq (e,c)])
theorem ahA:Ex E1 f84.body.l (st0 (.d (.s 6 es)::.d (qC e c)::xh) []) (.norm,puA es e c):=by
 apply e6;unfold puA oq qC Bi LD;simp[f84]
theorem aeo (hc:qz c<=100000)(h:¬ (bT e=true/\c≠0)):Ex E1 f84.body.r.l (puA es e c) (.ret,(st0 (.u::.u::.u::.d (.s 6 es)::rM) [oq (e,c)])):=by
 obtain⟨N,hN,t1,t2⟩:=((Ca.gV (Ca.bQ (qB 0 e))).j ((Ca.gV (nE c ae)).any)).at 0;refine Ex.of (n:=N+100) ?_;have hz:bT e=true->c.num.sign=0:=fun hf=>by
  have:c=0:=Classical.byContradiction fun h3=>h ⟨hf,h3⟩
  subst this;rfl
 generalize bT e=f,c.num.sign=sg at*;unfold puA;simp only[oq,mG,qD,raw,LD]at*;generalize qs c=s',LL (qn c)=ns',LL (qd c)=ds' at*;cases f
 ·simp[f84,t1]
 ·have:=hz rfl;subst this;simp[f84,t1,t2]
theorem aep (hc:qz c<=100000)(hf:bT e=true)(h0:c≠0):Ex E1 f84.body.r.l (puA es e c) (.norm,(st0 [.d (.s 6 es),.u,rL 0,.u,.u,.u,dB false,.u,.u,.u] [oq (e,c)])):=by
 obtain⟨N,hN,t1,t2⟩:=((Ca.gV (Ca.bQ (qB 0 e))).j ((Ca.gV (nE c ae)).any)).at 0;have hz:c.num.sign≠0:=fun h=>h0 (Rat.num_eq_zero.1 (Xb2.1 h))
 refine Ex.of (n:=N+100) ?_;rw[hf]at t1;generalize c.num.sign=sg at*;unfold puA;simp only[oq,mG,qD,raw,LD]at*;generalize qs c=s',LL (qn c)=ns',LL (qd c)=ds' at*;have hz':(sg==0)=false:=by simpa using hz
 simp[f84,t1,t2,hz']
theorem ahB:Ex E1 f84.body.r.r.l (st0 [.d (.s 6 es),.u,rL 0,.u,.u,.u,dB false,.u,.u,.u] [oq (e,c)]) (.norm,Aw es 0 .u .u .u .u .u [oq (e,c)]):=by
 apply e6;unfold Aw oq;simp[f84]
end put
theorem tk (A:List D)(x:D):List.take (A.length+1) (A++[x])=A++[x]:=by rw[show A.length+1=(A++[x]).length by simp,Qj1]
theorem hv1 (az:Nat)(A:List D)(x:D):ai.view az 6 0 (A.length+1) (.row az 6 (A++[x]))=some (A++[x]):=j5 _ _ _ aC
theorem hv2 (az:Nat)(A:List D)(x y:D)(B':List D):ai.view az 6 0 (A.length+1+(B'.length+1)) (.row az 6 (A++x::y::B'))=some (A++x::y::B'):=j5 _ _ _ (by simp;omega)
theorem hv3 (az:Nat)(x y:D)(B':List D):ai.view az 6 0 (1+(B'.length+1)) (.row az 6 (x::y::B'))=some (x::y::B'):=j5 _ _ _ (by simp;omega)
theorem hv4 (az:Nat)(A B':List D):ai.view az 6 0 (A.length+B'.length) (.row az 6 (A++B'))=some (A++B'):=j5 _ _ _ aC
theorem hv5 (az:Nat)(A:List D)(x:D)(B':List D):ai.view az 6 0 (A.length+1+B'.length) (.row az 6 (A++x::B'))=some (A++x::B'):=j5 _ _ _ (by simp;omega)
theorem hv6 (az:Nat)(x:D)(B':List D):ai.view az 6 0 (1+B'.length) (.row az 6 (x::B'))=some (x::B'):=j5 _ _ _ (by simp;omega)
theorem hv8 (az:Nat)(x:D):ai.view az 6 0 1 (.row az 6 [x])=some [x]:=j5 _ _ _ rfl
theorem hv9 (az:Nat)(B':List D):ai.view az 6 0 B'.length (.row az 6 B')=some B':=j5 _ _ _ rfl
theorem VV (A:List D)(e:gp)(c:Rat)(hn:(A++[]).length<=1000000) :
  ∃ n,(match EX E1 n f84.body.r.r.r.r (Aw (A++[]) A.length .u .u (.d (.v (.bool false))) .u .u [oq (e,c)]) with|some (.exit _,_)=>none|some (_,st')=>finish f84 st'|none=>none)=some (.d (.s 6 (A++[qC e c])),none):=by
 rw[Qb0]at hn;have Zg:(0:Int)<=(A.length:Int):=ae;have aS:ak .i64 ((A.length:Int)+1)=(A.length:Int)+1:=wrap_i64 ae;have m1:A.length*80<=1099511627776:=ae;have m2:A.length<=1099511627776:=ae;have m3:(A.length+1)*80<=1099511627776:=ae;have m4:A.length+1<=1099511627776:=ae;refine⟨200,?_⟩;unfold Aw;obtain⟨a2,b2,c2⟩:=e;simp only[oq,qC,Bi,LD]at*;generalize qs c=s1,LL (qn c)=ns1,LL (qd c)=ds1 at*
 by_cases hA:A=[]
 ·subst hA;simp[f84,kK,Hd,most,hv8]
 ·have hA1:A.isEmpty=false:=by simpa using hA
  simp[f84,kK,Hd,most,Zg,tk,hv1,m1,m2,m3,m4,hA1]
theorem Rw (A B':List D)(e:gp)(c:Rat)(p:bz)(hn:(A++qC p.1 p.2::B').length<=1000000)(hne:p.1≠e) :
  ∃ n,(match EX E1 n f84.body.r.r.r.r (Aw (A++qC p.1 p.2::B') A.length .u .u (.d (.v (.bool false))) .u .u [oq (e,c)]) with|some (.exit _,_)=>none|some (_,st')=>finish f84 st'|none=>none)=some (.d (.s 6 (A++qC e c::qC p.1 p.2::B')),none):=by
 rw[Qb0]at hn;have Zg:(0:Int)<=(A.length:Int):=ae;have aS:ak .i64 ((A.length:Int)+1)=(A.length:Int)+1:=wrap_i64 ae;have m1:A.length*80<=1099511627776:=ae;have m2:A.length<=1099511627776:=ae;have m3:(A.length+1)*80<=1099511627776:=ae;have m4:A.length+1<=1099511627776:=ae;rw[Qf1]at hn;have m5:(A.length+1+(B'.length+1))*80<=1099511627776:=ae;have m6:A.length+1+(B'.length+1)<=1099511627776:=ae;have m7:(1+(B'.length+1))*80<=1099511627776:=ae;have m8:1+(B'.length+1)<=1099511627776:=ae;have k1:(A.length:Int)<(A.length:Int)+((B'.length:Int)+1):=ae;have k2:A.length<A.length+(B'.length+1):=ae;have k3:¬ (A.length:Int)=(A.length:Int)+((B'.length:Int)+1):=ae;have k3':((A.length:Int)==(A.length:Int)+((B'.length:Int)+1))=false:=by simpa using k3
 have k10:((A.length:Int)+((B'.length:Int)+1)).toNat=A.length+(B'.length+1):=ae;have k11:((B'.length:Int)+1).toNat=B'.length+1:=ae;have w1:ak .i64 1=1:=wrap_i64 ae;have k12:A.length+(B'.length+1)-A.length=B'.length+1:=ae;have j1:(0:Int)<=(B'.length:Int)+1:=ae;have j2:(1:Int)<=(B'.length:Int)+1:=ae;have j3:(0:Int)<(B'.length:Int)+1:=ae;have k3n:¬ (0:Int)=(B'.length:Int)+1:=ae;have k3m:((0:Int)==(B'.length:Int)+1)=false:=by simpa using k3n
 have k4:(A.length:Int)<=(A.length:Int)+((B'.length:Int)+1):=ae;obtain⟨N,t⟩:=(Ca.gV (Ca.bQ (kL 0 e p.1))).get;have h0:jv e p.1≠0:=fun h=>hne ((Dw _ _).1 h).symm
 have h0':(jv e p.1 != 0)=true:=by simpa using h0
 have hg:∀ x:D,(A++x::B')[A.length]?=some x:=fun x=>by simp
 refine⟨N+200,?_⟩;generalize jv e p.1=r at*;unfold Aw;obtain⟨a2,b2,c2⟩:=e;obtain⟨⟨a,b,c'⟩,x⟩:=p;simp only[oq,qC,Bi,mG,LD]at*;generalize qs c=s1,LL (qn c)=ns1,LL (qd c)=ds1,qs x=s2,LL (qn x)=ns2,LL (qd x)=ds2 at*
 by_cases hA:A=[]
 ·subst hA;simp (maxSteps:=400000) [f84,kK,Hd,most,hv3,t,h0',m7,m8,k3m,j1,k11]
 ·have hA1:A.isEmpty=false:=by simpa using hA
  simp[f84,kK,Hd,most,Zg,tk,hv2,m1,m2,m3,m4,hA1,t,h0',m5,m6,k2,k3',k10,k12,k4]
theorem VW (A B':List D)(e:gp)(c:Rat)(p:bz)(hn:(A++qC p.1 p.2::B').length<=1000000)(he:p.1=e)(hc:qz c<=50000)(hp:qz p.2<=50000)(hs:c+p.2=0) :
  ∃ n,(match EX E1 n f84.body.r.r.r.r (Aw (A++qC p.1 p.2::B') A.length .u .u (.d (.v (.bool false))) .u .u [oq (e,c)]) with|some (.exit _,_)=>none|some (_,st')=>finish f84 st'|none=>none)=some (.d (.s 6 (A++B')),none):=by
 rw[Qb0]at hn;have Zg:(0:Int)<=(A.length:Int):=ae;have aS:ak .i64 ((A.length:Int)+1)=(A.length:Int)+1:=wrap_i64 ae;have m1:A.length*80<=1099511627776:=ae;have m2:A.length<=1099511627776:=ae;have m3:(A.length+1)*80<=1099511627776:=ae;have m4:A.length+1<=1099511627776:=ae;rw[Qf1]at hn;have m5:(A.length+1+B'.length)*80<=1099511627776:=ae;have m6:A.length+1+B'.length<=1099511627776:=ae;have m7:(1+B'.length)*80<=1099511627776:=ae;have m8:1+B'.length<=1099511627776:=ae;have m9:(A.length+B'.length)*80<=1099511627776:=ae;have m10:A.length+B'.length<=1099511627776:=ae;have m11:B'.length*80<=1099511627776:=ae;have m12:B'.length<=1099511627776:=ae;have k1:(A.length:Int)<(A.length:Int)+((B'.length:Int)+1):=ae;have k2:A.length<A.length+(B'.length+1):=ae;have k3:¬ (A.length:Int)=(A.length:Int)+((B'.length:Int)+1):=ae;have k3':((A.length:Int)==(A.length:Int)+((B'.length:Int)+1))=false:=by simpa using k3
 have k10:((A.length:Int)+((B'.length:Int)+1)).toNat=A.length+(B'.length+1):=ae;have k11:((B'.length:Int)+1).toNat=B'.length+1:=ae;have w1:ak .i64 1=1:=wrap_i64 ae;have k12:A.length+(B'.length+1)-A.length=B'.length+1:=ae;have j1:(0:Int)<=(B'.length:Int)+1:=ae;have j2:(1:Int)<=(B'.length:Int)+1:=ae;have j3:(0:Int)<(B'.length:Int)+1:=ae;have k3n:¬ (0:Int)=(B'.length:Int)+1:=ae;have k3m:((0:Int)==(B'.length:Int)+1)=false:=by simpa using k3n
 have k4:(A.length:Int)<=(A.length:Int)+((B'.length:Int)+1):=ae;have k5:(A.length:Int)+1<=(A.length:Int)+((B'.length:Int)+1):=ae;have k6:(0:Int)<=(A.length:Int)+1:=ae;have k7:((A.length:Int)+1).toNat=A.length+1:=ae;have k8:A.length+(B'.length+1)-(A.length+1)=B'.length:=ae;subst he;have hz:=qy c p.2;obtain⟨N,hN,t,t2,t3⟩:=((Ca.gV (Ca.bQ (kL 0 p.1 p.1))).j ((Ca.gV (BF c p.2 ae ae)).j ((Ca.gV (nE (c+p.2) ae)).any))).at 0;rw[(Dw p.1 p.1).2 rfl]at t;have hg:∀ x:D,(A++x::B')[A.length]?=some x:=fun x=>by simp
 have hd:∀ x:D,List.drop (A.length+1) (A++x::B')=B':=fun x=>by rw[<-Xr2];simp
 have hsg:(c+p.2).num.sign=0:=by rw[hs];rfl
 refine⟨N+200,?_⟩;generalize (c+p.2).num.sign=sg at*;generalize c+p.2=y at*;unfold Aw;obtain⟨⟨a,b,c'⟩,x⟩:=p;simp only[oq,qC,Bi,mG,qD,raw,LD]at*;generalize qs c=s1,LL (qn c)=ns1,LL (qd c)=ds1,qs x=s2,LL (qn x)=ns2,LL (qd x)=ds2,qs y=s3,LL (qn y)=ns3,LL (qd y)=ds3 at*
 by_cases hA:A=[]
 ·subst hA
  by_cases hB:B'=[]
  ·subst hB;simp[f84,kK,Hd,most,t,t2,t3,hsg,w1]
  ·have hB1:B'.isEmpty=false:=by simpa using hB
   simp (maxSteps:=400000) [f84,kK,Hd,most,t,t2,t3,hsg,m11,m12,k3m,j1,j2,hv9,k11,w1,hB1]
 ·have hA1:A.isEmpty=false:=by simpa using hA
  simp[f84,kK,Hd,most,Zg,hv4,aS,m1,m2,t,t2,t3,hsg,m9,m10,k2,k3',k10,k4,k5,k6,k7,k8,hA1,hd]
theorem aaI (A B':List D)(e:gp)(c:Rat)(p:bz)(hn:(A++qC p.1 p.2::B').length<=1000000)(he:p.1=e)(hc:qz c<=50000)(hp:qz p.2<=50000)(hs:c+p.2≠0) :
  ∃ n,(match EX E1 n f84.body.r.r.r.r (Aw (A++qC p.1 p.2::B') A.length .u .u (.d (.v (.bool false))) .u .u [oq (e,c)]) with|some (.exit _,_)=>none|some (_,st')=>finish f84 st'|none=>none)=some (.d (.s 6 (A++qC e (c+p.2)::B')),none):=by
 rw[Qb0]at hn;have Zg:(0:Int)<=(A.length:Int):=ae;have aS:ak .i64 ((A.length:Int)+1)=(A.length:Int)+1:=wrap_i64 ae;have m1:A.length*80<=1099511627776:=ae;have m2:A.length<=1099511627776:=ae;have m3:(A.length+1)*80<=1099511627776:=ae;have m4:A.length+1<=1099511627776:=ae;rw[Qf1]at hn;have m5:(A.length+1+B'.length)*80<=1099511627776:=ae;have m6:A.length+1+B'.length<=1099511627776:=ae;have m7:(1+B'.length)*80<=1099511627776:=ae;have m8:1+B'.length<=1099511627776:=ae;have m9:(A.length+B'.length)*80<=1099511627776:=ae;have m10:A.length+B'.length<=1099511627776:=ae;have m11:B'.length*80<=1099511627776:=ae;have m12:B'.length<=1099511627776:=ae;have k1:(A.length:Int)<(A.length:Int)+((B'.length:Int)+1):=ae;have k2:A.length<A.length+(B'.length+1):=ae;have k3:¬ (A.length:Int)=(A.length:Int)+((B'.length:Int)+1):=ae;have k3':((A.length:Int)==(A.length:Int)+((B'.length:Int)+1))=false:=by simpa using k3
 have k10:((A.length:Int)+((B'.length:Int)+1)).toNat=A.length+(B'.length+1):=ae;have k11:((B'.length:Int)+1).toNat=B'.length+1:=ae;have w1:ak .i64 1=1:=wrap_i64 ae;have k12:A.length+(B'.length+1)-A.length=B'.length+1:=ae;have j1:(0:Int)<=(B'.length:Int)+1:=ae;have j2:(1:Int)<=(B'.length:Int)+1:=ae;have j3:(0:Int)<(B'.length:Int)+1:=ae;have k3n:¬ (0:Int)=(B'.length:Int)+1:=ae;have k3m:((0:Int)==(B'.length:Int)+1)=false:=by simpa using k3n
 have k4:(A.length:Int)<=(A.length:Int)+((B'.length:Int)+1):=ae;have k5:(A.length:Int)+1<=(A.length:Int)+((B'.length:Int)+1):=ae;have k6:(0:Int)<=(A.length:Int)+1:=ae;have k7:((A.length:Int)+1).toNat=A.length+1:=ae;have k8:A.length+(B'.length+1)-(A.length+1)=B'.length:=ae;subst he;have hz:=qy c p.2;obtain⟨N,hN,t,t2,t3⟩:=((Ca.gV (Ca.bQ (kL 0 p.1 p.1))).j ((Ca.gV (BF c p.2 ae ae)).j ((Ca.gV (nE (c+p.2) ae)).any))).at 0;rw[(Dw p.1 p.1).2 rfl]at t;have hg:∀ x:D,(A++x::B')[A.length]?=some x:=fun x=>by simp
 have hd:∀ x:D,List.drop (A.length+1) (A++x::B')=B':=fun x=>by rw[<-Xr2];simp
 have hsg:(c+p.2).num.sign≠0:=fun h=>hs (Rat.num_eq_zero.1 (Xb2.1 h))
 have ahF:((c+p.2).num.sign != 0)=true:=by simpa using hsg
 refine⟨N+200,?_⟩;generalize (c+p.2).num.sign=sg at*;generalize c+p.2=y at*;unfold Aw;obtain⟨⟨a,b,c'⟩,x⟩:=p;simp only[oq,qC,Bi,mG,qD,raw,LD]at*;generalize qs c=s1,LL (qn c)=ns1,LL (qd c)=ds1,qs x=s2,LL (qn x)=ns2,LL (qd x)=ds2,qs y=s3,LL (qn y)=ns3,LL (qd y)=ds3 at*
 by_cases hA:A=[]
 ·subst hA;simp (maxSteps:=400000) [f84,kK,Hd,most,hv6,t,t2,t3,ahF,m7,m8,k3m,j1,j2,k11,w1]
 ·have hA1:A.isEmpty=false:=by simpa using hA
  simp[f84,kK,Hd,most,Zg,tk,hv5,aS,m1,m2,m3,m4,t,t2,t3,ahF,m5,m6,k2,k3',k10,k4,k5,k6,k7,k8,hA1,hd]
end
theorem aaJ {l a b:List bz}{e:gp}{c:Rat}(hn:l.length<=1000000)(hl:l=a++b)(ha:∀ p ∈ a,lM p.1 e=true)(hb:∀ p r,b=p::r->lM p.1 e=false)(hc:qz c<=50000)(hp:Bd 50000 l)(hins:pK l e c=a++pK b e c) :
  ∃ n,(match EX E1 n f84.body.r.r.r.r (Aw (l.map fun p=>qC p.1 p.2) a.length .u .u (.d (.v (.bool false))) .u .u [oq (e,c)]) with|some (.exit _,_)=>none|some (_,st')=>finish f84 st'|none=>none)=some (.d (.s 6 ((pK l e c).map fun p=>qC p.1 p.2)),none):=by
 subst hl;rw[hins];rw[Qq2,Qq2];have hla:(a.map fun p=>qC p.1 p.2).length=a.length:=aC;cases b with
 | nil =>
  have h:=VV (a.map fun p=>qC p.1 p.2) e c (by simpa using hn);rw[hla]at h;exact h
 | cons q r =>
  have hq:=hb q r rfl;have hn':((a.map fun p=>qC p.1 p.2)++qC q.1 q.2::(r.map fun p=>qC p.1 p.2)).length<=1000000:=by simpa using hn
  have hqb:qz q.2<=50000:=hp q aC;have hi:pK (q::r) e c=if q.1=e then(if c+q.2=0 then r else(e,c+q.2)::r) else(e,c)::q::r:=by
   show(if lM q.1 e=true then q::pK r e c else _)=_;rw[if_neg (by simp[hq])]
  rw[hi]
  by_cases he:q.1=e
  ·rw[if_pos he]
   by_cases h0:c+q.2=0
   ·rw[if_pos h0];have h:=VW (a.map fun p=>qC p.1 p.2) (r.map fun p=>qC p.1 p.2) e c q hn' he hc hqb h0;rw[hla]at h;exact h
   ·rw[if_neg h0];have h:=aaI (a.map fun p=>qC p.1 p.2) (r.map fun p=>qC p.1 p.2) e c q hn' he hc hqb h0;rw[hla]at h;exact h
  ·rw[if_neg he];have h:=Rw (a.map fun p=>qC p.1 p.2) (r.map fun p=>qC p.1 p.2) e c q hn' he;rw[hla]at h;exact h
theorem NA (l:List bz)(e:gp)(c:Rat)(hn:l.length<=1000000)(hb:Bd 50000 l)(hc:qz c<=50000):Ca E1 84 [.d (bu l),.d (qC e c)] (.d (bu (nL l e c)),none):=by
 have hA:=ahA (l.map fun p=>qC p.1 p.2) e c
 by_cases h:bT e=true/\c≠0
 ·obtain⟨a,b,h1,h2,h3,h4⟩:=F4 e l;obtain⟨n,hn'⟩:=aaJ hn h1 h2 h3 hc hb (h4 c);obtain⟨o,st',hE,ho,hf⟩:=VU hn';have hput:nL l e c=pK l e c:=if_pos h;rw[hput];have hB:=aep (l.map fun p=>qC p.1 p.2) e c ae h.1 h.2;have hC:=ahB (l.map fun p=>qC p.1 p.2) e c;have hL:Ex E1 (.loop Zf) (Aw (l.map fun p=>qC p.1 p.2) 0 .u .u .u .u .u [oq (e,c)]) (.exit 0,Aw (l.map fun p=>qC p.1 p.2) a.length .u .u (dB false) .u .u [oq (e,c)]):=by
   have:=aaH a b e c (by rw[<-h1];exact hn) h2 h3;rw[<-h1]at this;exact this
  refine Ca.body (o:=o) (st1:=st') rfl (k84:E1.fn _=_) rfl ?_ ho hf;show Ex E1 (.seq f84.body.l (.seq f84.body.r.l (.seq f84.body.r.r.l (.seq (.block 0 (.loop Zf)) f84.body.r.r.r.r)))) _ _;exact hA.seq (hB.seq (hC.seq (hL.block.seq hE)))
 ·have hput:nL l e c=l:=if_neg h;rw[hput];have hB:=aeo (l.map fun p=>qC p.1 p.2) e c ae h;refine Ca.body (o:=.ret) rfl (k84:E1.fn _=_) rfl ?_ (by intro id h;cases h) (st1:=(st0 [.u,.u,.u,.d (.s 6 (l.map fun p=>qC p.1 p.2)),.u,.u,.u,.u,.u,.u] [oq (e,c)])) ?_
  ·show Ex E1 (.seq f84.body.l (.seq f84.body.r.l f84.body.r.r)) _ _;exact hA.seq hB.dE
  ·unfold bu;generalize (l.map fun p=>qC p.1 p.2)=es at*;simp[f84]
def tkL:aG:=f86.body.r.r.r.l.r.bl.lp
def Rx (es:List D)(i:Nat)(out t:FV)(L:List ai):St:=(st0 [.d (.s 6 es),.u,out,dI i,.u,t] L)
theorem VX (es:List D)(i:Nat)(p:bz)(out:FV)(L:List ai)(xs:List D)(hi:es[i]?=some (qC p.1 p.2))(hn:es.length<=1000000)(hq:qz p.2<=100000)(ho:pG out L xs)(hx:xs.length<=1000000) :
  ∃ out' L',Ex E1 tkL (Rx es i out .u L) (.norm,Rx es (i+1) out' .u L')/\pG out' L' (xs++[qC p.1 p.2]):=by
 have hil:i<es.length:=(aU hi)
 have aS:ak .i64 ((i:Int)+1)=(i:Int)+1:=wrap_i64 ae;have hk1:((i+1:Nat):Int)=(i:Int)+1:=ae;have hk0:(0:Int)<=(i:Int):=ae;have hkc:(i:Int)<(es.length:Int):=ae;obtain⟨N,t⟩:=(Ca.gV (iV p.2 ae)).get;obtain⟨⟨a,b,c⟩,x⟩:=p;simp only[qC,Bi,qD,raw,LD]at*;generalize qs x=s,LL (qn x)=ns,LL (qd x)=ds at*;have i1:=idx hi;rcases ho with ⟨rfl,rfl⟩|⟨j,az,rfl,hrow⟩
 ·refine⟨.ls (.loc L.length) 0 6 0 1,L++[.row 0 6 [.a [vI a,vI b,vI c,vB s,.s 1 ns,.s 1 ds]]],Ex.of (n:=N+100) ?_,.inr ⟨L.length,0,aC,aC⟩⟩;unfold Rx;rw[hk1];simp[tkL,f86,aS,hk0,hkc,hil,hi,i1,t,most]
 ·have hm1:(xs.length+1)*80<=1099511627776:=ae;have hm2:xs.length+1<=1099511627776:=ae;have hjl:j<L.length:=(aU hrow)
  have i2:=idx hrow;refine⟨.ls (.loc j) (az+1) 6 0 (xs.length+1),L.set j (.row (az+1) 6 (xs++[.a [vI a,vI b,vI c,vB s,.s 1 ns,.s 1 ds]])),Ex.of (n:=N+100) ?_,.inr ⟨j,az+1,aC,by simp[hjl]⟩⟩;unfold Rx;rw[hk1];simp[tkL,f86,aS,hk0,hkc,hil,hi,i1,t,most,hrow,i2,hm1,hm2]
theorem aaK (l:List bz)(hn:l.length<=1000000)(hb:Bd 100000 l) :
  ∃ out L,Ex E1 (.loop tkL) (Rx (l.map fun p=>qC p.1 p.2) 0 (.d (.n 6)) .u []) (.exit 0,Rx (l.map fun p=>qC p.1 p.2) l.length out (dB false) L)/\pG out L (l.map fun p=>qC p.1 p.2):=by
 have hlen:(l.map fun p=>qC p.1 p.2).length=l.length:=aC;obtain⟨r,h1,out,L,rfl,h3⟩:=Ex.inv (E:=E1) (b:=tkL) (α:=Nat × FV × List ai) (S:=fun a=>Rx (l.map fun p=>qC p.1 p.2) a.1 a.2.1 .u a.2.2) (fun a=>l.length-a.1)
  (fun a=>a.1<=l.length/\pG a.2.1 a.2.2 ((l.take a.1).map fun p=>qC p.1 p.2)) (fun r=>∃ out L,r=(.exit 0,Rx (l.map fun p=>qC p.1 p.2) l.length out (dB false) L)/\pG out L (l.map fun p=>qC p.1 p.2)) (by
   rintro⟨i,out,L⟩ ⟨q1,q2⟩;simp only at q1 q2
   by_cases hi:i<l.length
   ·have hp:l[i]?=some l[i]:=Qa1 hi;have hp2:(l.map fun p=>qC p.1 p.2)[i]?=some (qC l[i].1 l[i].2):=by rw[Qc0,hp];rfl
    obtain⟨out',L',g1,g2⟩:=VX _ i l[i] out L _ hp2 (by rw[hlen];exact hn) (hb _ (Qi2 hi)) q2 (by rw[Ql1,Qk0];omega);refine .inl ⟨(i+1,out',L'),g1,by show l.length-(i+1)<l.length-i;omega,by show i+1<=_;omega,?_⟩;show pG out' L' ((l.take (i+1)).map fun p=>qC p.1 p.2);rw[Xa2,hp];have e:((l.take i++[l[i]]).map fun p:bz=>qC p.1 p.2)=((l.take i).map fun p=>qC p.1 p.2)++[qC l[i].1 l[i].2]:=by rw[Qq2];rfl
    show pG out' L' ((l.take i++[l[i]]).map fun p:bz=>qC p.1 p.2);rw[e];exact g2
   ·obtain rfl:i=l.length:=ae;rw[Qj1]at q2;refine .inr ⟨_,Ex.of (n:=60) ?_,?_,out,L,rfl,q2⟩
    ·simp only[Rx];rw[<-hlen];generalize (l.map fun p=>qC p.1 p.2)=es at*;simp[tkL,f86]
    ·simp) (0,.d (.n 6),[]) ⟨Qz2 _,.inl ⟨rfl,rfl⟩⟩
 exact⟨out,L,h1,h3⟩
theorem qK {S:Nat}{l:List bz}(h:PV S l)(hS:S<=1000):∃ o,Ca E1 86 [.d (bu l)] (.d (bu l),o)/\o=none:=by
 have hq:=FQ _ (VQ h hS);rw[BK h (fun m hm=>by cases hm),<-H7]at hq;obtain⟨N,t⟩:=(Ca.gV hq).get;have hlen:=h.length;obtain⟨out,L,hl,ho⟩:=aaK l ae (h.bd.mono ae);have hA:Ex E1 f86.body.l (st0 (.d (bu l)::jP) []) (.norm,(st0 (.d (bu l)::jP) [])):=by
  apply e6;generalize bu l=x;simp[f86]
 have hB := nx hA f86.body.r.l (st0 [.d (bu l),.u,.u,.u,dB false,.u] []) (by
  refine Ex.of (n:=N+60) ?_;unfold bu at*;generalize (l.map fun p=>qC p.1 p.2)=es at*;simp[f86,t])
 have hC := nx hB f86.body.r.r.l (st0 (.d (bu l)::.u::.d (.n 6)::u3K) []) (by
  apply e6;generalize bu l=x;simp[f86])
 have hD := nx hC f86.body.r.r.r.l.l (Rx (l.map fun p=>qC p.1 p.2) 0 (.d (.n 6)) .u []) (by
  apply e6;unfold Rx bu;generalize (l.map fun p=>qC p.1 p.2)=es at*;simp[f86])
 refine⟨none,?_,rfl⟩;have hE:∃ n,(match EX E1 n f86.body.r.r.r.r (Rx (l.map fun p=>qC p.1 p.2) l.length out (.d (.v (.bool false))) L) with|some (.exit _,_)=>none|some (_,st')=>finish f86 st'|none=>none)=some (.d (bu l),none):=by
  refine⟨60,?_⟩;unfold Rx bu;generalize (l.map fun p=>qC p.1 p.2)=es at*;rcases ho with ⟨rfl,rfl⟩|⟨j,az,rfl,hrow⟩
  ·simp[f86]
  ·have hv:=j5 az es.length es rfl;have i2:=idx hrow;simp[f86,hrow,i2,hv]
 obtain⟨n,hE⟩:=hE;obtain⟨o,st',hE,ho',hf⟩:=VU hE;refine Ca.body (o:=o) (st1:=st') rfl (aO 86 f86:E1.fn _=_) rfl ?_ ho' hf;show Ex E1 (.seq f86.body.l (.seq f86.body.r.l (.seq f86.body.r.r.l (.seq (.seq f86.body.r.r.r.l.l (.block 0 (.loop tkL))) f86.body.r.r.r.r)))) _ _;exact hA.seq (hB.seq (hC.seq ((hD.seq hl.block).seq hE)))
def fM (l ms:List bz):List bz:=ms.foldl (fun s p=>nL s p.1 p.2) l
theorem qL (l ms:List bz)(p:bz):fM l (ms++[p])=nL (fM l ms) p.1 p.2:=by simp[fM,Xl2]
theorem zH (l:List bz)(e:gp):∀ ms:List bz,tot (fM l ms) e=tot l e+tot (ms.filter fun p=>bT p.1) e:=by
 intro ms
 induction ms generalizing l with
 | nil=>simp only[fM,List.foldl_nil,List.filter_nil,tot];grind
 | cons p r ih =>
  show tot (fM (nL l p.1 p.2) r) e=_;rw[ih,Dv]
  by_cases h:bT p.1=true
  ·rw[Q72 (p:=fun p:bz=>bT p.1) h];obtain⟨a,y⟩:=p;simp only at h;simp only[tot,h,true_and];grind
  ·rw[Q71 (p:=fun p:bz=>bT p.1) h];simp only[h,false_and,if_false];grind
theorem Kc {S T U:Nat}{l:List bz}(h:PV S l)(hS:1<=S)(hSU:S<=U):∀ {ms:List bz},Bd T ms->(∀ k e,qz (tot l e+tot ((ms.take k).filter fun p=>bT p.1) e)<=U)->PV U (fM l ms):=by
 intro ms hT hU;have main:∀ k,k<=ms.length->PV U (fM l (ms.take k)):=by
  intro k
  induction k with
  | zero=>intro _;simpa[fM] using h.mono hSU
  | succ k ih =>
   intro hk;have hp:ms[k]?=some ms[k]:=Qa1 ae;have e1:ms.take (k+1)=ms.take k++[ms[k]]:=by rw[Xa2,hp];rfl
   have h1:=ih ae;rw[e1,qL];refine aaE h1 ae (hT _ (Qi2 ae)) (fun e' => ?_);have h2:=hU (k+1) e';have h3:=zH l e' (ms.take (k+1));rw[e1,qL,Dv]at h3;rw[h3,<-e1];exact h2
 have:=main ms.length (Qe1 _)
 rwa [Qj1]at this
theorem Ay {ms:List bz}(h:Fits ms):(ms.filter fun p=>bT p.1)=ms:=Xn1.2 (fun p hp=>h p hp)
theorem NB {S T:Nat}(hS:1<=S)(hT:1<=T){a b:List bz}(ha:PV S a)(hb:PV T b)(k:Nat)(e:gp):qz (tot a e+tot ((b.take k).filter fun p=>bT p.1) e)<=S+T+1:=by
 have hf:Fits (b.take k):=fun p hp=>hb.fits p (Qo1 hp)
 rw[Ay hf];have h1:=Dt hS (jy ha.Nt) ha.bd e;have hk:Keys (b.take k):=Xv2 ((List.take_sublist k b).map _) (jy hb.Nt);have h2:=Dt hT hk (fun p hp=>hb.bd p (Qo1 hp)) e;have:=qy (tot a e) (tot (b.take k) e);omega
theorem fold_add {S T:Nat}(hS:1<=S)(hT:1<=T){a b:List bz}(ha:PV S a)(hb:PV T b)(k:Nat):PV (S+T+1) (fM a (b.take k)):=by
 refine Kc (T:=T) ha hS ae (fun p hp=>hb.bd p (Qo1 hp)) (fun j e => ?_);rw[List.take_take];exact NB hS hT ha hb _ e
theorem Ke {S T:Nat}(hS:1<=S)(hT:1<=T){a b:List bz}(ha:PV S a)(hb:PV T b):fM a b=gN a b:=by
 have h1:=fold_add hS hT ha hb b.length;rw[Qj1]at h1;refine PV.ext h1 (gY hS hT ha hb) (fun e => ?_);rw[zH,j4,Ay hb.fits]
def adL:aG:=f49.body.r.r.l.r.bl.lp
def TV (b:List D)(acc:D)(i:Nat)(t:FV):St:=(st0 [.u,.d (.s 6 b),.u,.d acc,dI i,t] [])
theorem VY (es:List D)(l:List bz)(i:Nat)(p:bz)(hi:es[i]?=some (qC p.1 p.2))(hn:es.length<=1000000)(hl:l.length<=1000000)(hb:Bd 50000 l)(hp:qz p.2<=50000):Ex E1 adL (TV es (bu l) i .u) (.norm,TV es (bu (nL l p.1 p.2)) (i+1) .u):=by
 have hil:i<es.length:=(aU hi)
 have aS:ak .i64 ((i:Int)+1)=(i:Int)+1:=wrap_i64 ae;have hk1:((i+1:Nat):Int)=(i:Int)+1:=ae;have hk0:(0:Int)<=(i:Int):=ae;have hkc:(i:Int)<(es.length:Int):=ae;obtain⟨N,t⟩:=(NA l p.1 p.2 hl hb hp).get;refine Ex.of (n:=N+100) ?_;unfold TV bu at*;rw[hk1];generalize ((nL l p.1 p.2).map fun p=>qC p.1 p.2)=y,(l.map fun p=>qC p.1 p.2)=z at*;simp only[qC,Bi,LD]at*;generalize LL (qn p.2)=ns,LL (qd p.2)=ds at*;have i1:=idx hi;simp[adL,f49,aS,hk0,hkc,hil,hi,i1,t]
theorem aaL {S:Nat}(hS:1<=S)(hS2:S<=20000){a b:List bz}(ha:PV S a)(hb:PV S b) :
  Ex E1 (.loop adL) (TV (b.map fun p=>qC p.1 p.2) (bu a) 0 .u) (.exit 0,TV (b.map fun p=>qC p.1 p.2) (bu (gN a b)) b.length (dB false)):=by
 have hlen:(b.map fun p=>qC p.1 p.2).length=b.length:=aC;have lb:=hb.length;obtain⟨r,h1,rfl⟩:=Ex.inv (E:=E1) (b:=adL) (S:=fun i:Nat=>TV (b.map fun p=>qC p.1 p.2) (bu (fM a (b.take i))) i .u) (fun i=>b.length-i) (fun i=>i<=b.length)
  (fun r=>r=(.exit 0,TV (b.map fun p=>qC p.1 p.2) (bu (gN a b)) b.length (dB false))) (by
   intro i hi
   by_cases h:i<b.length
   ·have hp:b[i]?=some b[i]:=Qa1 h;have hp2:(b.map fun p=>qC p.1 p.2)[i]?=some (qC b[i].1 b[i].2):=by rw[Qc0,hp];rfl
    have hpv:=fold_add hS hS ha hb i;have:=VY _ (fM a (b.take i)) i b[i] hp2 ae (by have:=hpv.length;omega) (hpv.bd.mono ae) (by have:=hb.bd _ (Qi2 h);omega);refine .inl ⟨i+1,?_,ae,ae⟩;have e1:b.take (i+1)=b.take i++[b[i]]:=by rw[Xa2,hp];rfl
    rw[e1,qL];exact this
   ·obtain rfl:i=b.length:=ae;refine .inr ⟨_,Ex.of (n:=60) ?_,?_,rfl⟩
    ·rw[Qj1,Ke hS hS ha hb];unfold TV;rw[<-hlen];generalize (b.map fun p=>qC p.1 p.2)=es,bu (gN a b)=x at*;simp[adL,f49]
    ·simp) 0 (Qz2 _)
 simpa[fM] using h1
theorem Kg {S:Nat}(hS:1<=S)(hS2:S<=1000){a b:List bz}(ha:PV S a)(hb:PV S b):Ca E1 49 [.d (bu a),.d (bu b)] (.d (bu (gN a b)),none):=by
 obtain⟨_,h1,rfl⟩:=qK ha hS2;obtain⟨_,h2,rfl⟩:=qK hb hS2;obtain⟨N,hN,t1,t2⟩:=(h1.j h2.any).at 0;have hl:=aaL hS ae ha hb;have hA:Ex E1 f49.body.l (st0 (.d (bu a)::.d (bu b)::rJ) []) (.norm,(st0 (.d (bu a)::.d (bu b)::rJ) [])):=by
  apply e6;generalize bu a=x;generalize bu b=y;simp[f49]
 have hB := nx hA f49.body.r.l (st0 [.u,.d (bu b),.u,.d (bu a),.u,.u] []) (by
  refine Ex.of (n:=N+60) ?_;unfold bu at*;generalize (a.map fun p=>qC p.1 p.2)=x,(b.map fun p=>qC p.1 p.2)=y at*;simp[f49,t1,t2])
 have hC := nx hB f49.body.r.r.l.l (TV (b.map fun p=>qC p.1 p.2) (bu a) 0 .u) (by
  apply e6;unfold TV bu;simp[f49])
 have hD:Ex E1 f49.body.r.r.r (TV (b.map fun p=>qC p.1 p.2) (bu (gN a b)) b.length (dB false)) (.ret,(st0 (.u::.u::.d (bu (gN a b))::u3K) [])):=by
  apply e6;unfold TV bu;generalize ((gN a b).map fun p=>qC p.1 p.2)=x,(b.map fun p=>qC p.1 p.2)=y at*;simp[f49]
 refine Ca.body (o:=.ret) rfl (aO 49 f49:E1.fn _=_) rfl ?_ (by intro id h;cases h) (st1:=(st0 (.u::.u::.d (bu (gN a b))::u3K) [])) ?_
 ·show Ex E1 (.seq f49.body.l (.seq f49.body.r.l (.seq (.seq f49.body.r.r.l.l (.block 0 (.loop adL))) f49.body.r.r.r))) _ _;exact hA.seq (hB.seq ((hC.seq hl.block).seq hD))
 ·unfold bu;generalize ((gN a b).map fun p=>qC p.1 p.2)=x at*;simp[f49]
def F5:aG:=f58.body.r.r.r.l.r.bl.lp
def Dx:aG:=F5.r.l.bl
def Mm:aG:=Dx.r.bl.lp
def Dy:aG:=Mm.r.l.bl
def xmE:aG:=Dy.r.l.r.bl.lp
def oO (xa xb:List D)(acc:D)(i k:Nat)(v5 v6 v7 t9 PI:FV)(L:List ai):St :=
 (st0 [.d (.s 6 xa),.d (.s 6 xb),.u,.d acc,dI i,v5,v6,v7,.u,t9,PI] L)
theorem aaM (xa xb:List D)(acc:D)(i k:Nat)(L:List ai)(p q:bz)(y:Rat)(hi:xa[i]?=some (qC p.1 p.2))(hk:xb[k]?=some (qC q.1 q.2))(hn:xa.length<=1000000)(hn2:xb.length<=1000000)(hp:bT p.1=true)(hq:bT q.1=true) :
  Ex E1 Dy.r.l (oO xa xb acc i 0 (dI k) (rL L.length) .u .u .u (L++[oq ((0,0,0),y)]))
   (.norm,oO xa xb acc i 0 (dI k) (rL L.length) (dI 3) .u (dB false) (L++[oq (iO p.1 q.1,y)])):=by
 have h1:=fG hp;have h2:=fG hq;have hil:i<xa.length:=(aU hi)
 have hkl:k<xb.length:=(aU hk)
 have hi0:(0:Int)<=(i:Int):=ae;have hk0:(0:Int)<=(k:Int):=ae;obtain⟨⟨a,b,c⟩,x⟩:=p;obtain⟨⟨a',b',c'⟩,x'⟩:=q;simp only at h1 h2;have w1:ak .i64 (a+a')=a+a':=wrap_i64 ae;have w2:ak .i64 (b+b')=b+b':=wrap_i64 ae;have w3:ak .i64 (c+c')=c+c':=wrap_i64 ae;have u1:ak .i64 1=1:=wrap_i64 ae;have u2:ak .i64 2=2:=wrap_i64 ae;have u3:ak .i64 3=3:=wrap_i64 ae;have g6:∀ o,(L++[o])[L.length]?=some o:=fun o=>by simp
 have gs:∀ o o',(L++[o]).set L.length o'=L++[o']:=fun o o'=>by rw[Qx1 _ _ (Qe1 _)];simp
 refine Ex.of (n:=200) ?_;unfold oO;simp only[oq,qC,Bi,iO,LD]at*;generalize qs x=s,LL (qn x)=ns,LL (qd x)=ds at*;generalize qs x'=s',LL (qn x')=ns',LL (qd x')=ds',qs y=s'',LL (qn y)=aem,LL (qd y)=ds'' at*;have i1:=idx hi;have i2:=idx hk;simp[Dy,xmE,Mm,Dx,F5,f58,aF,w1,w2,w3,u1,u2,u3,hi,hk,i1,i2,hi0,hk0,hil,hkl,g6,gs]
def Acc (d:D)(l:List bz):Prop:=d=bu l\/(d=.n 6/\l=[])
theorem VZ (xa xb:List D)(i k:Nat)(acc:D)(L:List ai)(l:List bz)(hacc:Acc acc l)(p q:bz)(hi:xa[i]?=some (qC p.1 p.2))(hk:xb[k]?=some (qC q.1 q.2))(hn:xa.length<=1000000)(hn2:xb.length<=1000000)
  (hp:bT p.1=true) (hq:bT q.1=true) (sp:qz p.2<=20000) (sq:qz q.2<=20000) (hl:Bd 50000 l) (hll:l.length<=1000000) :
  ∃ L',Ex E1 Mm (oO xa xb acc i 0 (dI k) .u .u .u .u L) (.norm,oO xa xb (bu (nL l (iO p.1 q.1) (p.2*q.2))) i 0 (dI (k+1:Nat)) .u .u .u .u L'):=by
 have hil:i<xa.length:=(aU hi)
 have hkl:k<xb.length:=(aU hk)
 have aS:ak .i64 ((k:Int)+1)=(k:Int)+1:=wrap_i64 ae;have hk1:((k+1:Nat):Int)=(k:Int)+1:=ae;have hi0:(0:Int)<=(i:Int):=ae;have hk0:(0:Int)<=(k:Int):=ae;have hkc:(k:Int)<(xb.length:Int):=ae;have hz:=Cw p.2 q.2;refine⟨L++[oq (iO p.1 q.1,p.2*q.2)],?_⟩;have hA1:Ex E1 Mm.l (oO xa xb acc i 0 (dI k) .u .u .u .u L) (.norm,oO xa xb acc i 0 (dI k) .u .u (dB true) .u L):=by
  apply e6;unfold oO;simp[Mm,Dx,F5,f58,hkc]
 have hB := nx hA1 Dy.l (oO xa xb acc i 0 (dI k) (rL L.length) .u .u .u (L++[oq ((0,0,0),p.2*q.2)])) (by
  obtain⟨N,t⟩:=(Ca.gV (HY p.2 q.2 ae ae)).get;refine Ex.of (n:=N+100) ?_;unfold oO;generalize p.2*q.2=y at*;obtain⟨⟨a,b,c⟩,x⟩:=p;obtain⟨⟨a',b',c'⟩,x'⟩:=q;simp only[oq,qC,Bi,qD,raw,LD]at*;generalize qs x=s,LL (qn x)=ns,LL (qd x)=ds at*;generalize qs x'=s',LL (qn x')=ns',LL (qd x')=ds',qs y=s'',LL (qn y)=aem,LL (qd y)=ds'' at*;have i1:=idx hi;have i2:=idx hk;simp[Dy,Mm,Dx,F5,f58,t,hi,hk,i1,i2,hi0,hk0,hil,hkl])
 have hE:=aaM xa xb acc i k L p q (p.2*q.2) hi hk hn hn2 hp hq;have hZ:Ex E1 Dy.r.r (oO xa xb acc i 0 (dI k) (rL L.length) (dI 3) .u (dB false) (L++[oq (iO p.1 q.1,p.2*q.2)]))
   (.norm,oO xa xb (bu (nL l (iO p.1 q.1) (p.2*q.2))) i 0 (dI k) .u .u .u .u (L++[oq (iO p.1 q.1,p.2*q.2)])):=by
  obtain⟨N,t⟩:=(NA l (iO p.1 q.1) (p.2*q.2) hll hl ae).get;have g6:∀ o,(L++[o])[L.length]?=some o:=fun o=>by simp
  refine Ex.of (n:=N+100) ?_;clear hA1 hB hE;have hacc':(acc=bu l)\/(acc=.n 6/\bu l=.s 6 []):=by
   rcases hacc with h|⟨h,h'⟩
   ·exact .inl h
   ·exact .inr ⟨h,by rw[h'];rfl⟩
  unfold oO bu at*;generalize ((nL l (iO p.1 q.1) (p.2*q.2)).map fun p=>qC p.1 p.2)=y',(l.map fun p=>qC p.1 p.2)=z at*;generalize iO p.1 q.1=e,p.2*q.2=y at*;simp only[oq,qC,Bi,LD]at*;generalize qs y=s'',LL (qn y)=aem,LL (qd y)=ds'' at*;rcases hacc' with rfl|⟨rfl,h2⟩
  ·simp[Dy,Mm,Dx,F5,f58,t,g6]
  ·cases h2;simp[Dy,Mm,Dx,F5,f58,t,g6]
 have hF := nx hZ Mm.r.r (oO xa xb (bu (nL l (iO p.1 q.1) (p.2*q.2))) i 0 (dI (k+1:Nat)) .u .u .u .u (L++[oq (iO p.1 q.1,p.2*q.2)])) (by
  apply e6;unfold oO;rw[hk1];generalize bu (nL l (iO p.1 q.1) (p.2*q.2))=z;simp[Mm,Dx,F5,f58,aS])
 show Ex E1 (.seq Mm.l (.seq (.block 3 (.seq Dy.l (.seq Dy.r.l Dy.r.r))) Mm.r.r)) _ _;exact hA1.seq (((hB.seq (hE.seq hZ)).fE).seq hF)
def bW (p:bz)(b:List bz):List bz:=b.map fun q=>(iO p.1 q.1,p.2*q.2)
def bG (a b:List bz):List bz:=a.flatMap fun p=>bW p b
theorem NC (a b:List bz)(p:bz):bG (a++[p]) b=bG a b++bW p b:=by simp[bG,X61]
theorem H_ (a b:List bz):(bG a b).length=a.length*b.length:=by
 induction a with
 | nil=>simp[bG]
 | cons p r ih =>
  have h1:bG (p::r) b=bW p b++bG r b:=by simp[bG]
  rw[h1,Qb0,ih,Qf1,Qr0];simp[bW];omega
theorem mO (a b:List bz):((bG a b).filter fun p=>bT p.1)=gX a b:=by
 unfold bG gX;rw[List.filter_flatMap];rfl
theorem Kh {S:Nat}{p:bz}{b:List bz}(hp:qz p.2<=S)(hb:Bd S b):Bd (2*S) (bW p b):=by
 intro x hx;obtain⟨q,hq,rfl⟩:=Qg1.1 hx;have:=Cw p.2 q.2;have:=hb q hq;show qz (p.2*q.2)<=_;omega
theorem Ki {S:Nat}{a b:List bz}(ha:Bd S a)(hb:Bd S b):Bd (2*S) (bG a b):=by
 intro x hx;obtain⟨p,hp,hx⟩:=X2.1 hx;exact Kh (ha p hp) hb x hx
theorem F6 {T:Nat}(hT:1<=T):∀ {l:List bz},Bd T l->∀ e,qz (tot l e)<=l.length*(T+1)+1
 | [],_,e=>by
  have:=jZ;simp only[tot,Qs1];omega
 | p::l,h,e=>by
  have h1:=F6 hT (l:=l) (fun x hx=>h x (Qg2 _ hx)) e;have h2:=h p (Qj2 ..);obtain⟨a,y⟩:=p;have h3:=qy (if a=e then y else 0) (tot l e);have h4:qz (if a=e then y else 0)<=T:=by
   split
   ·exact h2
   ·exact Qd1 jZ ae
  simp only[tot,Qf1,Qr0];omega
theorem F7 {T N:Nat}(hT:1<=T){ms:List bz}(hb:Bd T ms)(hn:ms.length<=N):PV (N*(T+1)+1) (fM [] ms):=by
 refine Kc (S:=1) (T:=T) (PV.nil 1) ae ae hb (fun k e => ?_);have h1:tot [] e+tot ((ms.take k).filter fun p=>bT p.1) e=tot ((ms.take k).filter fun p=>bT p.1) e:=by simp only[tot];grind
 rw[h1];have h2:=F6 hT (l:=(ms.take k).filter fun p=>bT p.1) (fun p hp=>hb p (Qo1 (Qu0.1 hp).1)) e;have h3:((ms.take k).filter fun p=>bT p.1).length<=N:=Qd1 (Xh2 _ _) (by rw[Qk0];omega);exact Qd1 h2 (X42 (Qf0 _ h3) 1)
theorem Kj {S:Nat}(hS:1<=S){a b:List bz}(ha:PV S a)(hb:PV S b):fM [] (bG a b)=iX a b:=by
 refine PV.ext (F7 (T:=2*S) ae (Ki ha.bd hb.bd) (Qe1 _)) (iL hS ha hb) (fun e => ?_);rw[zH,mO,xP];simp only[tot];grind
theorem aaN {S:Nat}(hS:1<=S)(hS2:S<=1000)(xa:List D)(b pre:List bz)(i:Nat)(acc:D)(hacc:Acc acc (fM [] pre))(L:List ai)(p:bz)(hi:xa[i]?=some (qC p.1 p.2))(hn:xa.length<=1000000)(hp:bT p.1=true)(sp:qz p.2<=S)(hb:PV S b)
  (hpre:Bd (2*S) pre) (hm:(pre.length+b.length)*(2*S+1)<=40000) :
  ∃ acc' L',Acc acc' (fM [] (pre++bW p b))/\Ex E1 (.loop Mm) (oO xa (b.map fun p=>qC p.1 p.2) acc i 0 (dI 0) .u .u .u .u L)
   (.exit 2,oO xa (b.map fun p=>qC p.1 p.2) acc' i 0 (dI b.length) .u .u (dB false) .u L'):=by
 have hlen:(b.map fun p=>qC p.1 p.2).length=b.length:=aC;have lb:=hb.length;obtain⟨r,h1,acc',L',rfl,h2⟩:=Ex.inv (E:=E1) (b:=Mm) (α:=Nat × D × List ai) (S:=fun x=>oO xa (b.map fun p=>qC p.1 p.2) x.2.1 i 0 (dI x.1) .u .u .u .u x.2.2) (fun x=>b.length-x.1) (fun x=>x.1<=b.length/\Acc x.2.1 (fM [] (pre++bW p (b.take x.1))))
  (fun r=>∃ acc' L',r=(.exit 2,oO xa (b.map fun p=>qC p.1 p.2) acc' i 0 (dI b.length) .u .u (dB false) .u L')/\Acc acc' (fM [] (pre++bW p b))) (by
   rintro⟨k,acc,L⟩ ⟨hk,ha⟩;simp only at hk ha
   by_cases h:k<b.length
   ·have hpk:b[k]?=some b[k]:=Qa1 h;have hp2:(b.map fun p=>qC p.1 p.2)[k]?=some (qC b[k].1 b[k].2):=by rw[Qc0,hpk];rfl
    have hmem:=Qi2 h;have hpv:PV 40001 (fM [] (pre++bW p (b.take k))):=by
     refine(F7 (T:=2*S) (N:=pre.length+b.length) ae (fun x hx => ?_) (by simp[bW];omega)).mono ae;rcases Qw2.1 hx with hx|hx
     ·exact hpre x hx
     ·exact Kh sp (fun y hy=>hb.bd y (Qo1 hy)) x hx
    have hsq:=hb.bd _ hmem;obtain⟨L',g⟩:=VZ xa _ i k acc L (fM [] (pre++bW p (b.take k))) ha p b[k] hi hp2 hn ae hp (hb.fits _ hmem) ae ae (hpv.bd.mono ae) (by have:=hpv.length;omega);have e1:bW p (b.take (k+1))=bW p (b.take k)++[(iO p.1 b[k].1,p.2*b[k].2)]:=by
     rw[Xa2,hpk];unfold bW;rw[Qq2];rfl
    refine .inl ⟨(k+1,bu (nL (fM [] (pre++bW p (b.take k))) (iO p.1 b[k].1) (p.2*b[k].2)),L'),g,by show b.length-(k+1)<b.length-k;omega,by show k+1<=_;omega,.inl ?_⟩;show _=bu (fM [] (pre++bW p (b.take (k+1))));rw[e1,<-Qm1,qL]
   ·obtain rfl:k=b.length:=ae;rw[Qj1]at ha;refine .inr ⟨_,Ex.of (n:=60) ?_,?_,acc,L,rfl,ha⟩
    ·unfold oO;rw[<-hlen];generalize (b.map fun p=>qC p.1 p.2)=es at*;simp[Mm,Dx,F5,f58]
    ·simp) (0,acc,L) ⟨Qz2 _,by simpa[bW] using hacc⟩
 exact⟨acc',L',h2,h1⟩
theorem V3 {S:Nat}(hS:1<=S)(hS2:S<=1000)(a b pre:List bz)(i:Nat)(acc:D)(hacc:Acc acc (fM [] pre))(L:List ai)(p:bz)(hi:a[i]?=some p)(hn:a.length<=1000000)(hp:bT p.1=true)(sp:qz p.2<=S)(hb:PV S b)
  (hpre:Bd (2*S) pre) (hm:(pre.length+b.length)*(2*S+1)<=40000) :
  ∃ acc' L',Acc acc' (fM [] (pre++bW p b))/\Ex E1 F5 (oO (a.map fun p=>qC p.1 p.2) (b.map fun p=>qC p.1 p.2) acc i 0 .u .u .u .u .u L)
   (.norm,oO (a.map fun p=>qC p.1 p.2) (b.map fun p=>qC p.1 p.2) acc' (i+1) 0 .u .u .u .u .u L'):=by
 have hlen:(a.map fun p=>qC p.1 p.2).length=a.length:=aC;have hil:i<a.length:=(aU hi)
 have hi2:(a.map fun p=>qC p.1 p.2)[i]?=some (qC p.1 p.2):=by rw[Qc0,hi];rfl
 have aS:ak .i64 ((i:Int)+1)=(i:Int)+1:=wrap_i64 ae;have hk1:((i+1:Nat):Int)=(i:Int)+1:=ae;have hkc:(i:Int)<((a.map fun p=>qC p.1 p.2).length:Int):=by rw[hlen];omega
 obtain⟨acc',L',hac,hl⟩:=aaN hS hS2 _ b pre i acc hacc L p hi2 (by rw[hlen];exact hn) hp sp hb hpre hm;refine⟨acc',L',hac,?_⟩;have hA:Ex E1 F5.l (oO (a.map fun p=>qC p.1 p.2) (b.map fun p=>qC p.1 p.2) acc i 0 .u .u .u .u .u L)
   (.norm,{oO (a.map fun p=>qC p.1 p.2) (b.map fun p=>qC p.1 p.2) acc i 0 .u .u .u .u .u L with vars:=(oO (a.map fun p=>qC p.1 p.2) (b.map fun p=>qC p.1 p.2) acc i 0 .u .u .u .u .u L).vars.set 8 (dB true)}):=by
  apply e6;unfold oO;generalize (a.map fun p=>qC p.1 p.2)=x at*;simp[F5,f58,hkc]
 have hB := nx hA Dx.l (oO (a.map fun p=>qC p.1 p.2) (b.map fun p=>qC p.1 p.2) acc i 0 (dI 0) .u .u .u .u L) (by
  apply e6;unfold oO;generalize (a.map fun p=>qC p.1 p.2)=x,(b.map fun p=>qC p.1 p.2)=y at*;simp[Dx,F5,f58])
 have hF:Ex E1 F5.r.r (oO (a.map fun p=>qC p.1 p.2) (b.map fun p=>qC p.1 p.2) acc' i 0 (dI b.length) .u .u (dB false) .u L')
   (.norm,oO (a.map fun p=>qC p.1 p.2) (b.map fun p=>qC p.1 p.2) acc' (i+1) 0 .u .u .u .u .u L'):=by
  apply e6;unfold oO;rw[hk1];generalize (a.map fun p=>qC p.1 p.2)=x,(b.map fun p=>qC p.1 p.2)=y at*;simp[F5,f58,aS]
 show Ex E1 (.seq F5.l (.seq (.block 1 (.seq Dx.l (.block 2 (.loop Mm)))) F5.r.r)) _ _;exact hA.seq (((hB.seq hl.block).fE).seq hF)
theorem aaO {S:Nat}(hS:1<=S)(hS2:S<=1000){a b:List bz}(ha:PV S a)(hb:PV S b)(hm:(a.length*b.length+b.length)*(2*S+1)<=40000) :
  ∃ acc L',Acc acc (iX a b)/\Ex E1 (.loop F5) (oO (a.map fun p=>qC p.1 p.2) (b.map fun p=>qC p.1 p.2) (.n 6) 0 0 .u .u .u .u .u [])
   (.exit 0,{oO (a.map fun p=>qC p.1 p.2) (b.map fun p=>qC p.1 p.2) acc a.length 0 .u .u .u .u .u L' with vars:=(oO (a.map fun p=>qC p.1 p.2) (b.map fun p=>qC p.1 p.2) acc a.length 0 .u .u .u .u .u L').vars.set 8 (dB false)}):=by
 have hlen:(a.map fun p=>qC p.1 p.2).length=a.length:=aC;have la:=ha.length;obtain⟨r,h1,acc,L',rfl,h2⟩:=Ex.inv (E:=E1) (b:=F5) (α:=Nat × D × List ai) (S:=fun x=>oO (a.map fun p=>qC p.1 p.2) (b.map fun p=>qC p.1 p.2) x.2.1 x.1 0 .u .u .u .u .u x.2.2) (fun x=>a.length-x.1) (fun x=>x.1<=a.length/\Acc x.2.1 (fM [] (bG (a.take x.1) b)))
  (fun r=>∃ acc L',r=(.exit 0,{oO (a.map fun p=>qC p.1 p.2) (b.map fun p=>qC p.1 p.2) acc a.length 0 .u .u .u .u .u L' with vars:=(oO (a.map fun p=>qC p.1 p.2) (b.map fun p=>qC p.1 p.2) acc a.length 0 .u .u .u .u .u L').vars.set 8 (dB false)})/\Acc acc (iX a b)) (by
   rintro⟨i,acc,L⟩ ⟨hi,hac⟩;simp only at hi hac
   by_cases h:i<a.length
   ·have hpk:a[i]?=some a[i]:=Qa1 h;have hmem:=Qi2 h;obtain⟨acc',L',akf,g⟩:=V3 hS hS2 a b (bG (a.take i) b) i acc hac L a[i] hpk ae (ha.fits _ hmem) (ha.bd _ hmem) hb (Ki (fun x hx=>ha.bd x (Qo1 hx)) hb.bd) (by
     refine Qd1 (Qf0 _ ?_) hm;rw[H_,Qk0,Xt2 ae];exact X42 (Qf0 _ ae) _)
    have e1:bG (a.take (i+1)) b=bG (a.take i) b++bW a[i] b:=by
     rw[Xa2,hpk];exact NC _ _ _
    refine .inl ⟨(i+1,acc',L'),g,by show a.length-(i+1)<a.length-i;omega,by show i+1<=_;omega,?_⟩;show Acc acc' (fM [] (bG (a.take (i+1)) b));rw[e1];exact akf
   ·obtain rfl:i=a.length:=ae;rw[Qj1,Kj hS ha hb]at hac;refine .inr ⟨_,Ex.of (n:=60) ?_,?_,acc,L,rfl,hac⟩
    ·unfold oO;rw[<-hlen];generalize (a.map fun p=>qC p.1 p.2)=x,(b.map fun p=>qC p.1 p.2)=y at*;simp[F5,f58]
    ·simp) (0,.n 6,[]) ⟨Qz2 _,.inr ⟨rfl,rfl⟩⟩
 exact⟨acc,L',h2,h1⟩
theorem Kk {S:Nat}(hS:1<=S)(hS2:S<=1000){a b:List bz}(ha:PV S a)(hb:PV S b)(hm:(a.length*b.length+b.length)*(2*S+1)<=40000):Ca E1 58 [.d (bu a),.d (bu b)] (.d (bu (iX a b)),none):=by
 obtain⟨_,h1,rfl⟩:=qK ha hS2;obtain⟨_,h2,rfl⟩:=qK hb hS2;obtain⟨N,hN,t1,t2⟩:=(h1.j h2.any).at 0;obtain⟨acc,L',hac,hl⟩:=aaO hS hS2 ha hb hm;have hA:Ex E1 f58.body.l (st0 (.d (bu a)::.d (bu b)::Jh) []) (.norm,(st0 (.d (bu a)::.d (bu b)::Jh) [])):=by
  apply e6;generalize bu a=x;generalize bu b=y;simp[f58]
 have hB := nx hA f58.body.r.l (st0 (.d (bu a)::.d (bu b)::Jh) []) (by
  refine Ex.of (n:=N+60) ?_;unfold bu at*;generalize (a.map fun p=>qC p.1 p.2)=x,(b.map fun p=>qC p.1 p.2)=y at*;simp[f58,t1,t2])
 have hC := nx hB f58.body.r.r.l (st0 (.d (bu a)::.d (bu b)::.u::.d (.n 6)::qi) []) (by
  apply e6;generalize bu a=x;generalize bu b=y;simp[f58])
 have hD := nx hC f58.body.r.r.r.l.l (oO (a.map fun p=>qC p.1 p.2) (b.map fun p=>qC p.1 p.2) (.n 6) 0 0 .u .u .u .u .u []) (by
  apply e6;unfold oO bu;generalize (a.map fun p=>qC p.1 p.2)=x,(b.map fun p=>qC p.1 p.2)=y at*;simp[f58])
 have hE:Ex E1 f58.body.r.r.r.r {oO (a.map fun p=>qC p.1 p.2) (b.map fun p=>qC p.1 p.2) acc a.length 0 .u .u .u .u .u L' with vars:=(oO (a.map fun p=>qC p.1 p.2) (b.map fun p=>qC p.1 p.2) acc a.length 0 .u .u .u .u .u L').vars.set 8 (dB false)}
   (.ret,(st0 (.u::.u::.d acc::xh) (L'))):=by
  apply e6;unfold oO;generalize (a.map fun p=>qC p.1 p.2)=x,(b.map fun p=>qC p.1 p.2)=y at*;simp[f58]
 refine Ca.body (o:=.ret) rfl (aO 58 f58:E1.fn _=_) rfl ?_ (by intro id h;cases h) (st1:=(st0 (.u::.u::.d acc::xh) (L'))) ?_
 ·show Ex E1 (.seq f58.body.l (.seq f58.body.r.l (.seq f58.body.r.r.l (.seq (.seq f58.body.r.r.r.l.l (.block 0 (.loop F5))) f58.body.r.r.r.r)))) _ _;exact hA.seq (hB.seq (hC.seq ((hD.seq hl.block).seq hE)))
 ·rcases hac with rfl|⟨rfl,h⟩
  ·unfold bu;generalize ((iX a b).map fun p=>qC p.1 p.2)=x at*;simp[f58]
  ·rw[h];simp[f58,bu]
def cB (x:Rat):List bz:=if x=0 then [] else [((0,0,0),x)]
theorem V4 (x:Rat):nL [] (0,0,0) x=cB x:=by
 unfold nL cB pK;have h:bT (0,0,0)=true:=dw
 by_cases hx:x=0
 ·rw[if_pos hx,if_neg (fun h=>h.2 hx)]
 ·rw[if_neg hx,if_pos ⟨h,hx⟩]
theorem kN {S:Nat}{x:Rat}(h:qz x<=S):PV S (cB x):=by
 unfold cB;split
 ·exact PV.nil S
 ·rename_i hx;refine⟨Qn1.2 ⟨fun _ h=>(by cases h),List.Pairwise.nil⟩,fun p hp => ?_,fun p hp => ?_,fun p hp => ?_⟩<;>(rw[Q02]at hp;subst hp)
  ·exact hx
  ·exact(by decide:bT (0,0,0)=true)
  ·exact h
theorem F8 (x:Rat)(hx:qz x<=50000):Ca E1 48 [.d (qD x)] (.d (bu (cB x)),none):=by
 obtain⟨N1,t1⟩:=(Ca.gV (iV x ae)).any;have hp:=NA [] (0,0,0) x aC (fun p hp=>by cases hp) hx;rw[V4]at hp;obtain⟨N2,t2⟩:=hp.any;obtain⟨N,hN⟩:∃ N,N=N1+N2:=⟨_,rfl⟩
 replace t1:=t1 N ae;replace t2:=t2 N ae;refine Ca.bQ (n:=N+100) ?_;rw[aB rfl (aO 48 f48:E1.fn _=_) rfl];unfold bu at*;generalize ((cB x).map fun p=>qC p.1 p.2)=es at*;simp only[qC,Bi,qD,raw,LD,Qc2]at*;generalize qs x=s,LL (qn x)=ns,LL (qd x)=ds at*;simp[f48,t1,t2]
theorem Ry {S:Nat}(hS:1<=S)(hS2:S<=1000){a:List bz}(ha:PV S a)(x:Rat)(hx:qz x<=S)(hm:(a.length+1)*(2*S+1)<=40000):Ca E1 50 [.d (bu a),.d (qD x)] (.d (bu (iX a (cB x))),none):=by
 have hc:=kN hx;have hl:(cB x).length<=1:=by unfold cB;split<;>simp
 obtain⟨N1,t1⟩:=(F8 x ae).any;obtain⟨N2,t2⟩:=(Kk hS hS2 ha hc (by
  refine Qd1 (Qf0 _ ?_) hm;have:=Qz1 a.length hl;omega)).any
 obtain⟨N,hN⟩:∃ N,N=N1+N2:=⟨_,rfl⟩
 replace t1:=t1 N ae;replace t2:=t2 N ae;refine Ca.bQ (n:=N+100) ?_;rw[aB rfl (aO 50 f50:E1.fn _=_) rfl];unfold bu at*;generalize ((cB x).map fun p=>qC p.1 p.2)=es,((iX a (cB x)).map fun p=>qC p.1 p.2)=es2,(a.map fun p=>qC p.1 p.2)=es3 at*;simp only[qD,raw,LD]at*;generalize qs x=s,LL (qn x)=ns,LL (qd x)=ds at*;simp[f50,t1,t2]
def iG (i:Nat):gp:=if i=0 then(1,0,0) else if i=1 then(0,1,0) else(0,0,1)
theorem Rz (i:Nat)(hi:i<3):Ca E1 51 [dI i] (.d (bu [(iG i,1)]),none):=by
 have h1:=Ca.gV (C8 1 1 dw dw dw);have e1:su 1 1=1:=by decide +kernel
 rw[e1]at h1;obtain⟨N,t⟩:=h1.get;have hi0:¬ (i:Int)<0:=ae;have hi3:¬ (3:Int)<=(i:Int):=ae;have anf:¬ (i:Int) ≥ 3:=ae;refine Ca.bQ (n:=N+100) ?_;rw[aB rfl (aO 51 f51:E1.fn _=_) rfl];have hp:bu [(iG i,1)]=.s 6 [qC (iG i) 1]:=rfl;rw[hp]
 match i,hi with
 | 0,_ =>
  simp only[iG,if_true,qC,Bi,qD,raw,LD]at*;generalize qs 1=s,LL (qn 1)=ns,LL (qd 1)=ds at*;simp[f51,t]
 | 1,_ =>
  simp only[iG,qC,Bi,qD,raw,LD]at*;generalize qs 1=s,LL (qn 1)=ns,LL (qd 1)=ds at*;simp[f51,t]
 | 2,_ =>
  simp only[iG,qC,Bi,qD,raw,LD]at*;generalize qs 1=s,LL (qn 1)=ns,LL (qd 1)=ds at*;simp[f51,t]
theorem V5 (v n:Int)(hn:0<n):(v.tmod n<0->v.tmod n+n=v % n)/\(¬ v.tmod n<0->v.tmod n=v % n):=by
 have h:=Int.tmod_eq_emod (a:=v) (b:=n);have h1:=Qp0 v (show n≠0 by omega);have h2:=Qm0 v hn;have h3:(n.natAbs:Int)=n:=ae;constructor
 ·intro hlt;rw[h]at hlt ⊢;split at hlt
  ·omega
  ·rename_i hh;rw[if_neg hh];omega
 ·intro hlt;rw[h]at hlt ⊢;split at hlt
  ·rename_i hh;rw[if_pos hh];omega
  ·rename_i hh;rw[if_neg hh];exfalso;have:v % n≠0:=fun h0=>hh (.inr (Int.dvd_of_emod_eq_zero h0))
   omega
theorem jK (v n:Int)(hv:gM v)(hn:0<n)(hn2:n<=1000000):Ca E0 46 [dI v,dI n] (dI (v % n),none):=by
 obtain⟨f1,f2⟩:=V5 v n hn;have h1:=Qp0 v (show n≠0 by omega);have h2:=Qm0 v hn;have n0:n≠0:=ae;have n1:n≠-1:=ae;have n0':(n==0)=false:=by simpa using n0
 refine Ca.bQ (n:=60) ?_;rw[aB rfl (aO 46 f46:E0.fn _=_) rfl]
 by_cases h:v.tmod n<0
 ·have h3:=f1 h;have w0:ak .i64 (v.tmod n)=v.tmod n:=wrap_i64 ae;have w1:ak .i64 (v.tmod n+n)=v % n:=by rw[h3];exact wrap_i64 ae
  clear f1 f2 h3 h1 h2;simp[f46,n0,n0',w0,w1,h]
 ·have h3:=f2 h;have w0:ak .i64 (v.tmod n)=v.tmod n:=by rw[h3];exact wrap_i64 ae
  clear f1 f2 h1 h2;simp[f46,n0,n0',w0,h];exact h3
def vk (v:Int):Rat:=su (v % 13-6) (1+(v.tdiv 13) % 3)
theorem F9 (v:Int)(hv:gM v):Ca E0 47 [dI v] (.d (qD (vk v)),none):=by
 have h1:=Qp0 v (show(13:Int)≠0 by omega);have h2:=Qm0 v (show(0:Int)<13 by omega);have hd:gM (v.tdiv 13):=by
  have h:=Int.tdiv_eq_ediv (a:=v) (b:=13);have s13:Int.sign 13=1:=rfl;rw[s13]at h;unfold gM at*;split at h<;>omega
 have h3:=Qp0 (v.tdiv 13) (show(3:Int)≠0 by omega);have h4:=Qm0 (v.tdiv 13) (show(0:Int)<3 by omega);obtain⟨N,hN,t1,t2,t3⟩:=((jK v 13 hv ae ae).j ((jK (v.tdiv 13) 3 hd ae ae).j ((C8 (v % 13-6) (1+(v.tdiv 13) % 3) ae ae ae).any))).at 0;have w0:ak .i64 (v.tdiv 13)=v.tdiv 13:=wrap_i64 hd;have w1:ak .i64 (v % 13-6)=v % 13-6:=wrap_i64 ae;have w2:ak .i64 (1+(v.tdiv 13) % 3)=1+(v.tdiv 13) % 3:=wrap_i64 ae;refine Ca.bQ (n:=N+60) ?_;rw[aB rfl (aO 47 f47:E0.fn _=_) rfl];have e:su (v % 13-6) (1+(v.tdiv 13) % 3)=vk v:=rfl;rw[e]at t3;generalize vk v=x at*;clear h1 h2 h3 h4 hd e hN;simp only[qD,raw,LD]at*;generalize qs x=s,LL (qn x)=ns,LL (qd x)=ds at*;simp[f47,t1,t2,t3,w0,w1,w2]
def tC (k:Int):Int:=if k % 7=5\/k % 7=6 then 6 else k % 7+1
def Az (k:Int):List Int:=if k % 7=5 then [1,2] else if k % 7=6 then [3,4,5] else []
theorem aaP (k:Int)(hk:gM k):Ca E0 15 [dI k] (.d (aV (tC k) (Az k)),none):=by
 have h1:=Qp0 k (show(7:Int)≠0 by omega);have h2:=Qm0 k (show(0:Int)<7 by omega);have hj:gM (k % 7):=by unfold gM;omega
 have e7:k % 7 % 7=k % 7:=ae;obtain⟨N,hN,t1,t2⟩:=((jK k 7 hk ae ae).j ((jK (k % 7) 7 hj ae ae).any)).at 0;rw[e7]at t2;have w2:ak .i64 (k % 7+1)=k % 7+1:=wrap_i64 ae;refine Ca.bQ (n:=N+100) ?_;rw[aB rfl (aO 15 f15:E0.fn _=_) rfl];unfold tC Az aV LK;generalize k % 7=j at*;clear e7 hj h1 h2 hN
 by_cases h5:j=5
 ·subst h5;simp[f15,t1]
 ·by_cases h6:j=6
  ·subst h6;simp[f15,t1]
  ·have h5':(j==5)=false:=by simpa using h5
   have h6':(j==6)=false:=by simpa using h6
   simp[f15,t1,t2,h5,h6,h5',h6',w2]
end Fi.S
