import Derived.Test.YtbbogkfadofneaaGreatDoorCN
set_option linter.unusedVariables false
set_option linter.unusedSimpArgs false
noncomputable section
namespace Fi.S
open Go Fi
set_option maxHeartbeats 8000000
def oH:List a_->fT->Rat->List a_
 | [],e,c=>[(e,c)]
 | p::r,e,c=>if kU p.1 e=true then p::oH r e c else if p.1=e then(if c+p.2=0 then r else(e,c+p.2)::r) else(e,c)::p::r
def mP (l:List a_)(e:fT)(c:Rat):List a_:=if bR e=true/\c≠0 then oH l e c else l
theorem BZ {l:List a_}{e:fT}{c:Rat}{p:a_}(h:p ∈ oH l e c):p=(e,c)\/p ∈ l\/∃ y,(e,y) ∈ l/\p=(e,c+y)/\c+y≠0:=by
 induction l with
 | nil=>exact .inl (by simpa[oH] using h)
 | cons q r ih =>
  unfold oH at h;split at h
  ·rcases Qi2.1 h with rfl|h
   ·exact .inr (.inl (Qj0 ..))
   ·rcases ih h with h|h|⟨y,h1,h2⟩
    ·exact .inl h
    ·exact .inr (.inl (Qf1 _ h))
    ·exact .inr (.inr ⟨y,Qf1 _ h1,h2⟩)
  ·split at h
   ·rename_i he;split at h
    ·exact .inr (.inl (Qf1 _ h))
    ·rename_i hn;rcases Qi2.1 h with rfl|h
     ·obtain⟨a,y⟩:=q;simp only at he;subst he;exact .inr (.inr ⟨y,Qj0 ..,rfl,hn⟩)
     ·exact .inr (.inl (Qf1 _ h))
   ·rcases Qi2.1 h with rfl|h
    ·exact .inl rfl
    ·exact .inr (.inl h)
theorem Ur {l:List a_}{e:fT}{c:Rat}(e':fT):tot (oH l e c) e'=tot l e'+if e=e' then c else 0:=by
 induction l with
 | nil=>simp only[oH,tot];grind
 | cons q r ih =>
  obtain⟨a,y⟩:=q;unfold oH;split
  ·simp only[tot,ih];grind
  ·split
   ·rename_i he;simp only at he;subst he;split
    ·rename_i h0;simp only[tot]
     by_cases h:a=e'
     ·subst h;simp only[if_true];grind
     ·simp only[if_neg h];grind
    ·simp only[tot]
     by_cases h:a=e'
     ·subst h;simp only[if_true];grind
     ·simp only[if_neg h];grind
   ·simp only[tot];grind
theorem Us {l:List a_}{e:fT}{c:Rat}(h:Srt l):Srt (oH l e c):=by
 induction l with
 | nil=>exact Qq1.2 ⟨fun _ h=>(by cases h),List.Pairwise.nil⟩
 | cons q r ih =>
  have h':=Qq1.1 h;unfold oH;split
  ·rename_i hlt;refine Qq1.2 ⟨fun p hp => ?_,ih h'.2⟩;rcases BZ hp with rfl|hp|⟨y,_,rfl,_⟩
   ·exact hlt
   ·exact h'.1 p hp
   ·exact hlt
  ·rename_i hlt;split
   ·rename_i he;split
    ·exact h'.2
    ·refine Qq1.2 ⟨fun p hp => ?_,h'.2⟩;have:=h'.1 p hp;rw[he]at this;exact this
   ·rename_i hne;have hq:kU e q.1=true:=by
     cases h1:kU e q.1 with
     | true=>rfl
     | false=>exact absurd (j6 (by simpa using hlt) h1) hne
    refine Qq1.2 ⟨fun p hp => ?_,h⟩;rcases Qi2.1 hp with rfl|hp
    ·exact hq
    ·exact oG hq (h'.1 p hp)
theorem B_ (l:List a_)(e:fT)(c:Rat)(e':fT):tot (mP l e c) e'=tot l e'+if bR e=true/\e=e' then c else 0:=by
 unfold mP;split
 ·rename_i h;rw[Ur]
  by_cases h2:e=e'
  ·rw[if_pos h2,if_pos ⟨h.1,h2⟩]
  ·rw[if_neg h2,if_neg (fun h3=>h2 h3.2)]
 ·rename_i h;split
  ·rename_i h2;have:c=0:=Classical.byContradiction fun h3=>h ⟨h2.1,h3⟩
   subst this;grind
  ·grind
theorem YR {S T U:Nat}{l:List a_}{e:fT}{c:Rat}(h:PV S l)(hS:1<=S)(hT:qz c<=T)(hU:∀ e',qz (tot l e'+if bR e=true/\e=e' then c else 0)<=U):PV U (mP l e c):=by
 have hs:Srt (mP l e c):=by
  unfold mP;split
  ·exact Us h.LW
  ·exact h.LW
 refine⟨hs,fun p hp => ?_,fun p hp => ?_,fun p hp => ?_⟩
 ·unfold mP at hp;split at hp
  ·rename_i hh;rcases BZ hp with rfl|hp|⟨y,_,rfl,hn⟩
   ·exact hh.2
   ·exact h.nz p hp
   ·exact hn
  ·exact h.nz p hp
 ·unfold mP at hp;split at hp
  ·rename_i hh;rcases BZ hp with rfl|hp|⟨y,_,rfl,hn⟩
   ·exact hh.1
   ·exact h.fits p hp
   ·exact hh.1
  ·exact h.fits p hp
 ·have h1:=tL (jg hs) hp;rw[B_]at h1;rw[<-h1];exact hU _
theorem EU (e:fT):∀ l:List a_,∃ a b:List a_,l=a++b/\(∀ p ∈ a,kU p.1 e=true)/\(∀ p r,b=p::r->kU p.1 e=false)/\∀ c,oH l e c=a++oH b e c
 | []=>⟨[],[],rfl,fun _ h=>(by cases h),fun _ _ h=>(by cases h),fun _=>rfl⟩
 | q::l=>by
  cases hq:kU q.1 e with
  | true =>
   obtain⟨a,b,h1,h2,h3,h4⟩:=EU e l;refine⟨q::a,b,by rw[h1];rfl,fun p hp => ?_,h3,fun c => ?_⟩
   ·rcases Qi2.1 hp with rfl|hp
    ·exact hq
    ·exact h2 p hp
   ·show(if kU q.1 e=true then q::oH l e c else _)=_;rw[if_pos hq,h4];rfl
  | false=>exact⟨[],q::l,rfl,fun _ h=>(by cases h),fun p r h=>by cases h;exact hq,fun _=>rfl⟩
theorem Az (d e:fT):(0<je d e)↔kU e d=true:=by
 obtain⟨a,b,c⟩:=d;obtain⟨a',b',c'⟩:=e;unfold kU je fG;simp only[decide_eq_true_eq]
 repeat' split
 all_goals first|omega|simp_all|(simp_all;omega)
theorem Cb (d e:fT):je d e=0↔d=e:=by
 constructor
 ·intro h;have h1:kU d e=false:=by unfold kU;simp;omega
  have h2:kU e d=false:=by
   cases h3:kU e d with
   | false=>rfl
   | true=>have:=(Az d e).2 h3;omega
  exact j6 h1 h2
 ·rintro rfl;have h1:=eH d;have h2:¬ 0<je d d:=fun h=>by rw[Az,h1]at h;cases h
  unfold kU at h1;simp at h1;omega
def XA:aF:=f84.body.r.r.r.l.bl.lp
def zz (es:List D)(i:Nat)(t5 t6 t7 t8 t9:FV)(L:List ah):St :=
 (st0 [.d (.s 6 es),.u,rL 0,.u,dI i,t5,t6,t7,t8,t9] L)
theorem Ut (es:List D)(i:Nat)(p:a_)(e:fT)(c:Rat)(hi:es[i]?=some (qC p.1 p.2))(hn:es.length<=1000000)(hlt:kU p.1 e=true):Ex E1 XA (zz es i .u .u .u .u .u [nJ (e,c)]) (.norm,zz es (i+1) .u .u .u .u .u [nJ (e,c)]):=by
 have hil:i<es.length:=(bq hi)
 have aR:ai .i64 ((i:Int)+1)=(i:Int)+1:=wrap_i64 ae;have hk1:((i+1:Nat):Int)=(i:Int)+1:=ae;have hk0:(0:Int)<=(i:Int):=ae;have hkc:(i:Int)<(es.length:Int):=ae;obtain⟨N,t⟩:=(Ca.ib (Ca.bP (j5 0 e p.1))).get;have hpos:0<je e p.1:=(Az _ _).2 hlt;refine Ex.of (n:=N+100) ?_;unfold zz;rw[hk1];generalize je e p.1=r at*;obtain⟨⟨a,b,c'⟩,x⟩:=p;obtain⟨a2,b2,c2⟩:=e;simp only[nJ,qC,Aa,lM,LD]at*;generalize qs x=s,LL (qn x)=ns,LL (qd x)=ds,qs c=s',LL (qn c)=ns',LL (qd c)=ds' at*;have i1:=idx hi;simp[XA,f84,aR,hk0,hkc,hil,hi,i1,t,hpos]
theorem YS (es:List D)(e:fT)(c:Rat):Ex E1 XA (zz es es.length .u .u .u .u .u [nJ (e,c)]) (.exit 0,zz es es.length .u .u (dB false) .u .u [nJ (e,c)]):=by
 refine Ex.of (n:=100) ?_;unfold zz nJ;simp[XA,f84]
theorem YT (es:List D)(i:Nat)(p:a_)(e:fT)(c:Rat)(hi:es[i]?=some (qC p.1 p.2))(hlt:kU p.1 e=false):Ex E1 XA (zz es i .u .u .u .u .u [nJ (e,c)]) (.exit 0,zz es i .u .u (dB false) .u .u [nJ (e,c)]):=by
 have hil:i<es.length:=(bq hi)
 have hk0:(0:Int)<=(i:Int):=ae;have hkc:(i:Int)<(es.length:Int):=ae;obtain⟨N,t⟩:=(Ca.ib (Ca.bP (j5 0 e p.1))).get;have hpos:¬ 0<je e p.1:=fun h=>by rw[Az,hlt]at h;cases h
 refine Ex.of (n:=N+100) ?_;unfold zz;generalize je e p.1=r at*;obtain⟨⟨a,b,c'⟩,x⟩:=p;obtain⟨a2,b2,c2⟩:=e;simp only[nJ,qC,Aa,lM,LD]at*;generalize qs x=s,LL (qn x)=ns,LL (qd x)=ds,qs c=s',LL (qn c)=ns',LL (qd c)=ds' at*;have i1:=idx hi;simp[XA,f84,hk0,hkc,hil,hi,i1,t,hpos]
theorem YU (a b:List a_)(e:fT)(c:Rat)(hn:(a++b).length<=1000000)(ha:∀ p ∈ a,kU p.1 e=true)(hb:∀ p r,b=p::r->kU p.1 e=false) :
  Ex E1 (.loop XA) (zz ((a++b).map fun p=>qC p.1 p.2) 0 .u .u .u .u .u [nJ (e,c)]) (.exit 0,zz ((a++b).map fun p=>qC p.1 p.2) a.length .u .u (dB false) .u .u [nJ (e,c)]):=by
 have hlen:((a++b).map fun p=>qC p.1 p.2).length=(a++b).length:=aA;obtain⟨r,h1,rfl⟩:=Ex.inv (E:=E1) (b:=XA) (S:=fun i:Nat=>zz ((a++b).map fun p=>qC p.1 p.2) i .u .u .u .u .u [nJ (e,c)]) (fun i=>a.length-i) (fun i=>i<=a.length)
  (fun r=>r=(.exit 0,zz ((a++b).map fun p=>qC p.1 p.2) a.length .u .u (dB false) .u .u [nJ (e,c)])) (by
   intro i hi
   by_cases h:i<a.length
   ·have hp:((a++b).map fun p=>qC p.1 p.2)[i]?=some (qC a[i].1 a[i].2):=by
     rw[Qb2,Qa0 h,Qa1 h];rfl
    exact .inl ⟨i+1,Ut _ i a[i] e c hp (by rw[hlen];exact hn) (ha _ (Qi0 h)),ae,ae⟩
   ·obtain rfl:i=a.length:=ae;cases b with
    | nil =>
     have:=YS (a.map fun p:a_=>qC p.1 p.2) e c;rw[Ql0]at this;simp only[Q10];exact .inr ⟨_,this,aA,rfl⟩
    | cons p r =>
     have hp:((a++p::r).map fun p=>qC p.1 p.2)[a.length]?=some (qC p.1 p.2):=by
      rw[Qb2,Qc0 (Qd1 _),Xo1];rfl
     exact .inr ⟨_,YT _ _ p e c hp (hb p r rfl),aA,rfl⟩) 0 (Qy1 _)
 exact h1
section
theorem Uu {E:Env}{F:bK}{n:Nat}{c:aF}{st:St}{r:FV × Option (List ah)}(h:(match EX E n c st with|some (.exit _,_)=>none|some (_,st')=>finish F st'|none=>none)=some r) :
  ∃ o st',Ex E c st (o,st')/\(∀ id,o≠.exit id)/\finish F st'=some r:=by
 cases he:EX E n c st with
 | none=>rw[he]at h;cases h
 | some x =>
  obtain⟨o,st'⟩:=x;rw[he]at h;cases o with
  | exit id=>cases h
  | norm=>exact⟨_,_,Ex.of he,fun id hid=>(by cases hid),h⟩
  | ret=>exact⟨_,_,Ex.of he,fun id hid=>(by cases hid),h⟩
theorem jL (ak n:Nat)(es:List D)(h:n=es.length):ah.view ak 6 0 n (.row ak 6 es)=some es:=by
 subst h;simp[ah.view]
section put
variable (es:List D) (e:fT) (c:Rat)
def puA:St:=(st0 (.d (.s 6 es)::.u::rL 0::sO) [nJ (e,c)])
theorem afk:Ex E1 f84.body.l (st0 (.d (.s 6 es)::.d (qC e c)::zZ) []) (.norm,puA es e c):=by
 apply e6;unfold puA nJ qC Aa LD;simp[f84]
theorem ab9 (hc:qz c<=100000)(h:¬ (bR e=true/\c≠0)):Ex E1 f84.body.r.l (puA es e c) (.ret,(st0 (.u::.u::.u::.d (.s 6 es)::qO) [nJ (e,c)])):=by
 obtain⟨N,hN,t1,t2⟩:=((Ca.ib (Ca.bP (o_ 0 e))).j ((Ca.ib (mJ c ae)).any)).at 0;refine Ex.of (n:=N+100) ?_;have hz:bR e=true->c.num.sign=0:=fun hf=>by
  have:c=0:=Classical.byContradiction fun h3=>h ⟨hf,h3⟩
  subst this;rfl
 generalize bR e=f,c.num.sign=sg at*;unfold puA;simp only[nJ,lM,qD,raw,LD]at*;generalize qs c=s',LL (qn c)=ns',LL (qd c)=ds' at*;cases f
 ·simp[f84,t1]
 ·have:=hz rfl;subst this;simp[f84,t1,t2]
theorem ab_ (hc:qz c<=100000)(hf:bR e=true)(h0:c≠0):Ex E1 f84.body.r.l (puA es e c) (.norm,(st0 [.d (.s 6 es),.u,rL 0,.u,.u,.u,dB false,.u,.u,.u] [nJ (e,c)])):=by
 obtain⟨N,hN,t1,t2⟩:=((Ca.ib (Ca.bP (o_ 0 e))).j ((Ca.ib (mJ c ae)).any)).at 0;have hz:c.num.sign≠0:=fun h=>h0 (Rat.num_eq_zero.1 (Q90.1 h))
 refine Ex.of (n:=N+100) ?_;rw[hf]at t1;generalize c.num.sign=sg at*;unfold puA;simp only[nJ,lM,qD,raw,LD]at*;generalize qs c=s',LL (qn c)=ns',LL (qd c)=ds' at*;have hz':(sg==0)=false:=by simpa using hz
 simp[f84,t1,t2,hz']
theorem afl:Ex E1 f84.body.r.r.l (st0 [.d (.s 6 es),.u,rL 0,.u,.u,.u,dB false,.u,.u,.u] [nJ (e,c)]) (.norm,zz es 0 .u .u .u .u .u [nJ (e,c)]):=by
 apply e6;unfold zz nJ;simp[f84]
end put
theorem tk (A:List D)(x:D):List.take (A.length+1) (A++[x])=A++[x]:=by rw[show A.length+1=(A++[x]).length by simp,Qn0]
theorem hv1 (ak:Nat)(A:List D)(x:D):ah.view ak 6 0 (A.length+1) (.row ak 6 (A++[x]))=some (A++[x]):=jL _ _ _ aA
theorem hv2 (ak:Nat)(A:List D)(x y:D)(B':List D):ah.view ak 6 0 (A.length+1+(B'.length+1)) (.row ak 6 (A++x::y::B'))=some (A++x::y::B'):=jL _ _ _ (by simp;omega)
theorem hv3 (ak:Nat)(x y:D)(B':List D):ah.view ak 6 0 (1+(B'.length+1)) (.row ak 6 (x::y::B'))=some (x::y::B'):=jL _ _ _ (by simp;omega)
theorem hv4 (ak:Nat)(A B':List D):ah.view ak 6 0 (A.length+B'.length) (.row ak 6 (A++B'))=some (A++B'):=jL _ _ _ aA
theorem hv5 (ak:Nat)(A:List D)(x:D)(B':List D):ah.view ak 6 0 (A.length+1+B'.length) (.row ak 6 (A++x::B'))=some (A++x::B'):=jL _ _ _ (by simp;omega)
theorem hv6 (ak:Nat)(x:D)(B':List D):ah.view ak 6 0 (1+B'.length) (.row ak 6 (x::B'))=some (x::B'):=jL _ _ _ (by simp;omega)
theorem hv8 (ak:Nat)(x:D):ah.view ak 6 0 1 (.row ak 6 [x])=some [x]:=jL _ _ _ rfl
theorem hv9 (ak:Nat)(B':List D):ah.view ak 6 0 B'.length (.row ak 6 B')=some B':=jL _ _ _ rfl
theorem Uv (A:List D)(e:fT)(c:Rat)(hn:(A++[]).length<=1000000) :
  ∃ n,(match EX E1 n f84.body.r.r.r.r (zz (A++[]) A.length .u .u (.d (.v (.bool false))) .u .u [nJ (e,c)]) with|some (.exit _,_)=>none|some (_,st')=>finish f84 st'|none=>none)=some (.d (.s 6 (A++[qC e c])),none):=by
 rw[Qb0]at hn;have XB:(0:Int)<=(A.length:Int):=ae;have aR:ai .i64 ((A.length:Int)+1)=(A.length:Int)+1:=wrap_i64 ae;have m1:A.length*80<=1099511627776:=ae;have m2:A.length<=1099511627776:=ae;have m3:(A.length+1)*80<=1099511627776:=ae;have m4:A.length+1<=1099511627776:=ae;refine⟨200,?_⟩;unfold zz;obtain⟨a2,b2,c2⟩:=e;simp only[nJ,qC,Aa,LD]at*;generalize qs c=s1,LL (qn c)=ns1,LL (qd c)=ds1 at*
 by_cases hA:A=[]
 ·subst hA;simp[f84,j4,F8,most,hv8]
 ·have hA1:A.isEmpty=false:=by simpa using hA
  simp[f84,j4,F8,most,XB,tk,hv1,m1,m2,m3,m4,hA1]
theorem P8 (A B':List D)(e:fT)(c:Rat)(p:a_)(hn:(A++qC p.1 p.2::B').length<=1000000)(hne:p.1≠e) :
  ∃ n,(match EX E1 n f84.body.r.r.r.r (zz (A++qC p.1 p.2::B') A.length .u .u (.d (.v (.bool false))) .u .u [nJ (e,c)]) with|some (.exit _,_)=>none|some (_,st')=>finish f84 st'|none=>none)=some (.d (.s 6 (A++qC e c::qC p.1 p.2::B')),none):=by
 rw[Qb0]at hn;have XB:(0:Int)<=(A.length:Int):=ae;have aR:ai .i64 ((A.length:Int)+1)=(A.length:Int)+1:=wrap_i64 ae;have m1:A.length*80<=1099511627776:=ae;have m2:A.length<=1099511627776:=ae;have m3:(A.length+1)*80<=1099511627776:=ae;have m4:A.length+1<=1099511627776:=ae;rw[Qg0]at hn;have m5:(A.length+1+(B'.length+1))*80<=1099511627776:=ae;have m6:A.length+1+(B'.length+1)<=1099511627776:=ae;have m7:(1+(B'.length+1))*80<=1099511627776:=ae;have m8:1+(B'.length+1)<=1099511627776:=ae;have k1:(A.length:Int)<(A.length:Int)+((B'.length:Int)+1):=ae;have k2:A.length<A.length+(B'.length+1):=ae;have k3:¬ (A.length:Int)=(A.length:Int)+((B'.length:Int)+1):=ae;have k3':((A.length:Int)==(A.length:Int)+((B'.length:Int)+1))=false:=by simpa using k3
 have k10:((A.length:Int)+((B'.length:Int)+1)).toNat=A.length+(B'.length+1):=ae;have k11:((B'.length:Int)+1).toNat=B'.length+1:=ae;have w1:ai .i64 1=1:=wrap_i64 ae;have k12:A.length+(B'.length+1)-A.length=B'.length+1:=ae;have j1:(0:Int)<=(B'.length:Int)+1:=ae;have j2:(1:Int)<=(B'.length:Int)+1:=ae;have j3:(0:Int)<(B'.length:Int)+1:=ae;have k3n:¬ (0:Int)=(B'.length:Int)+1:=ae;have k3m:((0:Int)==(B'.length:Int)+1)=false:=by simpa using k3n
 have k4:(A.length:Int)<=(A.length:Int)+((B'.length:Int)+1):=ae;obtain⟨N,t⟩:=(Ca.ib (Ca.bP (j5 0 e p.1))).get;have h0:je e p.1≠0:=fun h=>hne ((Cb _ _).1 h).symm
 have h0':(je e p.1 != 0)=true:=by simpa using h0
 have hg:∀ x:D,(A++x::B')[A.length]?=some x:=fun x=>by simp
 refine⟨N+200,?_⟩;generalize je e p.1=r at*;unfold zz;obtain⟨a2,b2,c2⟩:=e;obtain⟨⟨a,b,c'⟩,x⟩:=p;simp only[nJ,qC,Aa,lM,LD]at*;generalize qs c=s1,LL (qn c)=ns1,LL (qd c)=ds1,qs x=s2,LL (qn x)=ns2,LL (qd x)=ds2 at*
 by_cases hA:A=[]
 ·subst hA;simp (maxSteps:=400000) [f84,j4,F8,most,hv3,t,h0',m7,m8,k3m,j1,k11]
 ·have hA1:A.isEmpty=false:=by simpa using hA
  simp[f84,j4,F8,most,XB,tk,hv2,m1,m2,m3,m4,hA1,t,h0',m5,m6,k2,k3',k10,k12,k4]
theorem Uw (A B':List D)(e:fT)(c:Rat)(p:a_)(hn:(A++qC p.1 p.2::B').length<=1000000)(he:p.1=e)(hc:qz c<=50000)(hp:qz p.2<=50000)(hs:c+p.2=0) :
  ∃ n,(match EX E1 n f84.body.r.r.r.r (zz (A++qC p.1 p.2::B') A.length .u .u (.d (.v (.bool false))) .u .u [nJ (e,c)]) with|some (.exit _,_)=>none|some (_,st')=>finish f84 st'|none=>none)=some (.d (.s 6 (A++B')),none):=by
 rw[Qb0]at hn;have XB:(0:Int)<=(A.length:Int):=ae;have aR:ai .i64 ((A.length:Int)+1)=(A.length:Int)+1:=wrap_i64 ae;have m1:A.length*80<=1099511627776:=ae;have m2:A.length<=1099511627776:=ae;have m3:(A.length+1)*80<=1099511627776:=ae;have m4:A.length+1<=1099511627776:=ae;rw[Qg0]at hn;have m5:(A.length+1+B'.length)*80<=1099511627776:=ae;have m6:A.length+1+B'.length<=1099511627776:=ae;have m7:(1+B'.length)*80<=1099511627776:=ae;have m8:1+B'.length<=1099511627776:=ae;have m9:(A.length+B'.length)*80<=1099511627776:=ae;have m10:A.length+B'.length<=1099511627776:=ae;have m11:B'.length*80<=1099511627776:=ae;have m12:B'.length<=1099511627776:=ae;have k1:(A.length:Int)<(A.length:Int)+((B'.length:Int)+1):=ae;have k2:A.length<A.length+(B'.length+1):=ae;have k3:¬ (A.length:Int)=(A.length:Int)+((B'.length:Int)+1):=ae;have k3':((A.length:Int)==(A.length:Int)+((B'.length:Int)+1))=false:=by simpa using k3
 have k10:((A.length:Int)+((B'.length:Int)+1)).toNat=A.length+(B'.length+1):=ae;have k11:((B'.length:Int)+1).toNat=B'.length+1:=ae;have w1:ai .i64 1=1:=wrap_i64 ae;have k12:A.length+(B'.length+1)-A.length=B'.length+1:=ae;have j1:(0:Int)<=(B'.length:Int)+1:=ae;have j2:(1:Int)<=(B'.length:Int)+1:=ae;have j3:(0:Int)<(B'.length:Int)+1:=ae;have k3n:¬ (0:Int)=(B'.length:Int)+1:=ae;have k3m:((0:Int)==(B'.length:Int)+1)=false:=by simpa using k3n
 have k4:(A.length:Int)<=(A.length:Int)+((B'.length:Int)+1):=ae;have k5:(A.length:Int)+1<=(A.length:Int)+((B'.length:Int)+1):=ae;have k6:(0:Int)<=(A.length:Int)+1:=ae;have k7:((A.length:Int)+1).toNat=A.length+1:=ae;have k8:A.length+(B'.length+1)-(A.length+1)=B'.length:=ae;subst he;have hz:=o8 c p.2;obtain⟨N,hN,t,t2,t3⟩:=((Ca.ib (Ca.bP (j5 0 p.1 p.1))).j ((Ca.ib (Aq c p.2 ae ae)).j ((Ca.ib (mJ (c+p.2) ae)).any))).at 0;rw[(Cb p.1 p.1).2 rfl]at t;have hg:∀ x:D,(A++x::B')[A.length]?=some x:=fun x=>by simp
 have hd:∀ x:D,List.drop (A.length+1) (A++x::B')=B':=fun x=>by rw[<-Xp0];simp
 have hsg:(c+p.2).num.sign=0:=by rw[hs];rfl
 refine⟨N+200,?_⟩;generalize (c+p.2).num.sign=sg at*;generalize c+p.2=y at*;unfold zz;obtain⟨⟨a,b,c'⟩,x⟩:=p;simp only[nJ,qC,Aa,lM,qD,raw,LD]at*;generalize qs c=s1,LL (qn c)=ns1,LL (qd c)=ds1,qs x=s2,LL (qn x)=ns2,LL (qd x)=ds2,qs y=s3,LL (qn y)=ns3,LL (qd y)=ds3 at*
 by_cases hA:A=[]
 ·subst hA
  by_cases hB:B'=[]
  ·subst hB;simp[f84,j4,F8,most,t,t2,t3,hsg,w1]
  ·have hB1:B'.isEmpty=false:=by simpa using hB
   simp (maxSteps:=400000) [f84,j4,F8,most,t,t2,t3,hsg,m11,m12,k3m,j1,j2,hv9,k11,w1,hB1]
 ·have hA1:A.isEmpty=false:=by simpa using hA
  simp[f84,j4,F8,most,XB,hv4,aR,m1,m2,t,t2,t3,hsg,m9,m10,k2,k3',k10,k4,k5,k6,k7,k8,hA1,hd]
theorem YV (A B':List D)(e:fT)(c:Rat)(p:a_)(hn:(A++qC p.1 p.2::B').length<=1000000)(he:p.1=e)(hc:qz c<=50000)(hp:qz p.2<=50000)(hs:c+p.2≠0) :
  ∃ n,(match EX E1 n f84.body.r.r.r.r (zz (A++qC p.1 p.2::B') A.length .u .u (.d (.v (.bool false))) .u .u [nJ (e,c)]) with|some (.exit _,_)=>none|some (_,st')=>finish f84 st'|none=>none)=some (.d (.s 6 (A++qC e (c+p.2)::B')),none):=by
 rw[Qb0]at hn;have XB:(0:Int)<=(A.length:Int):=ae;have aR:ai .i64 ((A.length:Int)+1)=(A.length:Int)+1:=wrap_i64 ae;have m1:A.length*80<=1099511627776:=ae;have m2:A.length<=1099511627776:=ae;have m3:(A.length+1)*80<=1099511627776:=ae;have m4:A.length+1<=1099511627776:=ae;rw[Qg0]at hn;have m5:(A.length+1+B'.length)*80<=1099511627776:=ae;have m6:A.length+1+B'.length<=1099511627776:=ae;have m7:(1+B'.length)*80<=1099511627776:=ae;have m8:1+B'.length<=1099511627776:=ae;have m9:(A.length+B'.length)*80<=1099511627776:=ae;have m10:A.length+B'.length<=1099511627776:=ae;have m11:B'.length*80<=1099511627776:=ae;have m12:B'.length<=1099511627776:=ae;have k1:(A.length:Int)<(A.length:Int)+((B'.length:Int)+1):=ae;have k2:A.length<A.length+(B'.length+1):=ae;have k3:¬ (A.length:Int)=(A.length:Int)+((B'.length:Int)+1):=ae;have k3':((A.length:Int)==(A.length:Int)+((B'.length:Int)+1))=false:=by simpa using k3
 have k10:((A.length:Int)+((B'.length:Int)+1)).toNat=A.length+(B'.length+1):=ae;have k11:((B'.length:Int)+1).toNat=B'.length+1:=ae;have w1:ai .i64 1=1:=wrap_i64 ae;have k12:A.length+(B'.length+1)-A.length=B'.length+1:=ae;have j1:(0:Int)<=(B'.length:Int)+1:=ae;have j2:(1:Int)<=(B'.length:Int)+1:=ae;have j3:(0:Int)<(B'.length:Int)+1:=ae;have k3n:¬ (0:Int)=(B'.length:Int)+1:=ae;have k3m:((0:Int)==(B'.length:Int)+1)=false:=by simpa using k3n
 have k4:(A.length:Int)<=(A.length:Int)+((B'.length:Int)+1):=ae;have k5:(A.length:Int)+1<=(A.length:Int)+((B'.length:Int)+1):=ae;have k6:(0:Int)<=(A.length:Int)+1:=ae;have k7:((A.length:Int)+1).toNat=A.length+1:=ae;have k8:A.length+(B'.length+1)-(A.length+1)=B'.length:=ae;subst he;have hz:=o8 c p.2;obtain⟨N,hN,t,t2,t3⟩:=((Ca.ib (Ca.bP (j5 0 p.1 p.1))).j ((Ca.ib (Aq c p.2 ae ae)).j ((Ca.ib (mJ (c+p.2) ae)).any))).at 0;rw[(Cb p.1 p.1).2 rfl]at t;have hg:∀ x:D,(A++x::B')[A.length]?=some x:=fun x=>by simp
 have hd:∀ x:D,List.drop (A.length+1) (A++x::B')=B':=fun x=>by rw[<-Xp0];simp
 have hsg:(c+p.2).num.sign≠0:=fun h=>hs (Rat.num_eq_zero.1 (Q90.1 h))
 have afp:((c+p.2).num.sign != 0)=true:=by simpa using hsg
 refine⟨N+200,?_⟩;generalize (c+p.2).num.sign=sg at*;generalize c+p.2=y at*;unfold zz;obtain⟨⟨a,b,c'⟩,x⟩:=p;simp only[nJ,qC,Aa,lM,qD,raw,LD]at*;generalize qs c=s1,LL (qn c)=ns1,LL (qd c)=ds1,qs x=s2,LL (qn x)=ns2,LL (qd x)=ds2,qs y=s3,LL (qn y)=ns3,LL (qd y)=ds3 at*
 by_cases hA:A=[]
 ·subst hA;simp (maxSteps:=400000) [f84,j4,F8,most,hv6,t,t2,t3,afp,m7,m8,k3m,j1,j2,k11,w1]
 ·have hA1:A.isEmpty=false:=by simpa using hA
  simp[f84,j4,F8,most,XB,tk,hv5,aR,m1,m2,m3,m4,t,t2,t3,afp,m5,m6,k2,k3',k10,k4,k5,k6,k7,k8,hA1,hd]
end
theorem YW {l a b:List a_}{e:fT}{c:Rat}(hn:l.length<=1000000)(hl:l=a++b)(ha:∀ p ∈ a,kU p.1 e=true)(hb:∀ p r,b=p::r->kU p.1 e=false)(hc:qz c<=50000)(hp:Bd 50000 l)(hins:oH l e c=a++oH b e c) :
  ∃ n,(match EX E1 n f84.body.r.r.r.r (zz (l.map fun p=>qC p.1 p.2) a.length .u .u (.d (.v (.bool false))) .u .u [nJ (e,c)]) with|some (.exit _,_)=>none|some (_,st')=>finish f84 st'|none=>none)=some (.d (.s 6 ((oH l e c).map fun p=>qC p.1 p.2)),none):=by
 subst hl;rw[hins];rw[Qp2,Qp2];have hla:(a.map fun p=>qC p.1 p.2).length=a.length:=aA;cases b with
 | nil =>
  have h:=Uv (a.map fun p=>qC p.1 p.2) e c (by simpa using hn);rw[hla]at h;exact h
 | cons q r =>
  have hq:=hb q r rfl;have hn':((a.map fun p=>qC p.1 p.2)++qC q.1 q.2::(r.map fun p=>qC p.1 p.2)).length<=1000000:=by simpa using hn
  have hqb:qz q.2<=50000:=hp q aA;have hi:oH (q::r) e c=if q.1=e then(if c+q.2=0 then r else(e,c+q.2)::r) else(e,c)::q::r:=by
   show(if kU q.1 e=true then q::oH r e c else _)=_;rw[if_neg (by simp[hq])]
  rw[hi]
  by_cases he:q.1=e
  ·rw[if_pos he]
   by_cases h0:c+q.2=0
   ·rw[if_pos h0];have h:=Uw (a.map fun p=>qC p.1 p.2) (r.map fun p=>qC p.1 p.2) e c q hn' he hc hqb h0;rw[hla]at h;exact h
   ·rw[if_neg h0];have h:=YV (a.map fun p=>qC p.1 p.2) (r.map fun p=>qC p.1 p.2) e c q hn' he hc hqb h0;rw[hla]at h;exact h
  ·rw[if_neg he];have h:=P8 (a.map fun p=>qC p.1 p.2) (r.map fun p=>qC p.1 p.2) e c q hn' he;rw[hla]at h;exact h
theorem L8 (l:List a_)(e:fT)(c:Rat)(hn:l.length<=1000000)(hb:Bd 50000 l)(hc:qz c<=50000):Ca E1 84 [.d (aZ l),.d (qC e c)] (.d (aZ (mP l e c)),none):=by
 have hA:=afk (l.map fun p=>qC p.1 p.2) e c
 by_cases h:bR e=true/\c≠0
 ·obtain⟨a,b,h1,h2,h3,h4⟩:=EU e l;obtain⟨n,hn'⟩:=YW hn h1 h2 h3 hc hb (h4 c);obtain⟨o,st',hE,ho,hf⟩:=Uu hn';have hput:mP l e c=oH l e c:=if_pos h;rw[hput];have hB:=ab_ (l.map fun p=>qC p.1 p.2) e c ae h.1 h.2;have hC:=afl (l.map fun p=>qC p.1 p.2) e c;have hL:Ex E1 (.loop XA) (zz (l.map fun p=>qC p.1 p.2) 0 .u .u .u .u .u [nJ (e,c)]) (.exit 0,zz (l.map fun p=>qC p.1 p.2) a.length .u .u (dB false) .u .u [nJ (e,c)]):=by
   have:=YU a b e c (by rw[<-h1];exact hn) h2 h3;rw[<-h1]at this;exact this
  refine Ca.body (o:=o) (st1:=st') rfl (k84:E1.fn _=_) rfl ?_ ho hf;show Ex E1 (.seq f84.body.l (.seq f84.body.r.l (.seq f84.body.r.r.l (.seq (.block 0 (.loop XA)) f84.body.r.r.r.r)))) _ _;exact hA.seq (hB.seq (hC.seq (hL.block.seq hE)))
 ·have hput:mP l e c=l:=if_neg h;rw[hput];have hB:=ab9 (l.map fun p=>qC p.1 p.2) e c ae h;refine Ca.body (o:=.ret) rfl (k84:E1.fn _=_) rfl ?_ (by intro id h;cases h) (st1:=(st0 [.u,.u,.u,.d (.s 6 (l.map fun p=>qC p.1 p.2)),.u,.u,.u,.u,.u,.u] [nJ (e,c)])) ?_
  ·show Ex E1 (.seq f84.body.l (.seq f84.body.r.l f84.body.r.r)) _ _;exact hA.seq hB.dX
  ·unfold aZ;generalize (l.map fun p=>qC p.1 p.2)=es at*;simp[f84]
def tkL:aF:=f86.body.r.r.r.l.r.bl.lp
def P9 (es:List D)(i:Nat)(out t:FV)(L:List ah):St:=(st0 [.d (.s 6 es),.u,out,dI i,.u,t] L)
theorem Ux (es:List D)(i:Nat)(p:a_)(out:FV)(L:List ah)(xs:List D)(hi:es[i]?=some (qC p.1 p.2))(hn:es.length<=1000000)(hq:qz p.2<=100000)(ho:oD out L xs)(hx:xs.length<=1000000) :
  ∃ out' L',Ex E1 tkL (P9 es i out .u L) (.norm,P9 es (i+1) out' .u L')/\oD out' L' (xs++[qC p.1 p.2]):=by
 have hil:i<es.length:=(bq hi)
 have aR:ai .i64 ((i:Int)+1)=(i:Int)+1:=wrap_i64 ae;have hk1:((i+1:Nat):Int)=(i:Int)+1:=ae;have hk0:(0:Int)<=(i:Int):=ae;have hkc:(i:Int)<(es.length:Int):=ae;obtain⟨N,t⟩:=(Ca.ib (iI p.2 ae)).get;obtain⟨⟨a,b,c⟩,x⟩:=p;simp only[qC,Aa,qD,raw,LD]at*;generalize qs x=s,LL (qn x)=ns,LL (qd x)=ds at*;have i1:=idx hi;rcases ho with ⟨rfl,rfl⟩|⟨j,ak,rfl,hrow⟩
 ·refine⟨.ls (.loc L.length) 0 6 0 1,L++[.row 0 6 [.a [vI a,vI b,vI c,vB s,.s 1 ns,.s 1 ds]]],Ex.of (n:=N+100) ?_,.inr ⟨L.length,0,aA,aA⟩⟩;unfold P9;rw[hk1];simp[tkL,f86,aR,hk0,hkc,hil,hi,i1,t,most]
 ·have hm1:(xs.length+1)*80<=1099511627776:=ae;have hm2:xs.length+1<=1099511627776:=ae;have hjl:j<L.length:=(bq hrow)
  have i2:=idx hrow;refine⟨.ls (.loc j) (ak+1) 6 0 (xs.length+1),L.set j (.row (ak+1) 6 (xs++[.a [vI a,vI b,vI c,vB s,.s 1 ns,.s 1 ds]])),Ex.of (n:=N+100) ?_,.inr ⟨j,ak+1,aA,by simp[hjl]⟩⟩;unfold P9;rw[hk1];simp[tkL,f86,aR,hk0,hkc,hil,hi,i1,t,most,hrow,i2,hm1,hm2]
theorem YX (l:List a_)(hn:l.length<=1000000)(hb:Bd 100000 l) :
  ∃ out L,Ex E1 (.loop tkL) (P9 (l.map fun p=>qC p.1 p.2) 0 (.d (.n 6)) .u []) (.exit 0,P9 (l.map fun p=>qC p.1 p.2) l.length out (dB false) L)/\oD out L (l.map fun p=>qC p.1 p.2):=by
 have hlen:(l.map fun p=>qC p.1 p.2).length=l.length:=aA;obtain⟨r,h1,out,L,rfl,h3⟩:=Ex.inv (E:=E1) (b:=tkL) (α:=Nat × FV × List ah) (S:=fun a=>P9 (l.map fun p=>qC p.1 p.2) a.1 a.2.1 .u a.2.2) (fun a=>l.length-a.1)
  (fun a=>a.1<=l.length/\oD a.2.1 a.2.2 ((l.take a.1).map fun p=>qC p.1 p.2)) (fun r=>∃ out L,r=(.exit 0,P9 (l.map fun p=>qC p.1 p.2) l.length out (dB false) L)/\oD out L (l.map fun p=>qC p.1 p.2)) (by
   rintro⟨i,out,L⟩ ⟨q1,q2⟩;simp only at q1 q2
   by_cases hi:i<l.length
   ·have hp:l[i]?=some l[i]:=Qa1 hi;have hp2:(l.map fun p=>qC p.1 p.2)[i]?=some (qC l[i].1 l[i].2):=by rw[Qb2,hp];rfl
    obtain⟨out',L',g1,g2⟩:=Ux _ i l[i] out L _ hp2 (by rw[hlen];exact hn) (hb _ (Qi0 hi)) q2 (by rw[Ql0,Qr0];omega);refine .inl ⟨(i+1,out',L'),g1,by show l.length-(i+1)<l.length-i;omega,by show i+1<=_;omega,?_⟩;show oD out' L' ((l.take (i+1)).map fun p=>qC p.1 p.2);rw[Q82,hp];have e:((l.take i++[l[i]]).map fun p:a_=>qC p.1 p.2)=((l.take i).map fun p=>qC p.1 p.2)++[qC l[i].1 l[i].2]:=by rw[Qp2];rfl
    show oD out' L' ((l.take i++[l[i]]).map fun p:a_=>qC p.1 p.2);rw[e];exact g2
   ·obtain rfl:i=l.length:=ae;rw[Qn0]at q2;refine .inr ⟨_,Ex.of (n:=60) ?_,?_,out,L,rfl,q2⟩
    ·simp only[P9];rw[<-hlen];generalize (l.map fun p=>qC p.1 p.2)=es at*;simp[tkL,f86]
    ·simp) (0,.d (.n 6),[]) ⟨Qy1 _,.inl ⟨rfl,rfl⟩⟩
 exact⟨out,L,h1,h3⟩
theorem pM {S:Nat}{l:List a_}(h:PV S l)(hS:S<=1000):∃ o,Ca E1 86 [.d (aZ l)] (.d (aZ l),o)/\o=none:=by
 have hq:=EJ _ (Uq h hS);rw[Ay h (fun m hm=>by cases hm),<-Gw]at hq;obtain⟨N,t⟩:=(Ca.ib hq).get;have hlen:=h.length;obtain⟨out,L,hl,ho⟩:=YX l ae (h.bd.mono ae);have hA:Ex E1 f86.body.l (st0 (.d (aZ l)::lI) []) (.norm,(st0 (.d (aZ l)::lI) [])):=by
  apply e6;generalize aZ l=x;simp[f86]
 have hB := nx hA f86.body.r.l (st0 [.d (aZ l),.u,.u,.u,dB false,.u] []) (by
  refine Ex.of (n:=N+60) ?_;unfold aZ at*;generalize (l.map fun p=>qC p.1 p.2)=es at*;simp[f86,t])
 have hC := nx hB f86.body.r.r.l (st0 (.d (aZ l)::.u::.d (.n 6)::u3K) []) (by
  apply e6;generalize aZ l=x;simp[f86])
 have hD := nx hC f86.body.r.r.r.l.l (P9 (l.map fun p=>qC p.1 p.2) 0 (.d (.n 6)) .u []) (by
  apply e6;unfold P9 aZ;generalize (l.map fun p=>qC p.1 p.2)=es at*;simp[f86])
 refine⟨none,?_,rfl⟩;have hE:∃ n,(match EX E1 n f86.body.r.r.r.r (P9 (l.map fun p=>qC p.1 p.2) l.length out (.d (.v (.bool false))) L) with|some (.exit _,_)=>none|some (_,st')=>finish f86 st'|none=>none)=some (.d (aZ l),none):=by
  refine⟨60,?_⟩;unfold P9 aZ;generalize (l.map fun p=>qC p.1 p.2)=es at*;rcases ho with ⟨rfl,rfl⟩|⟨j,ak,rfl,hrow⟩
  ·simp[f86]
  ·have hv:=jL ak es.length es rfl;have i2:=idx hrow;simp[f86,hrow,i2,hv]
 obtain⟨n,hE⟩:=hE;obtain⟨o,st',hE,ho',hf⟩:=Uu hE;refine Ca.body (o:=o) (st1:=st') rfl (aM 86 f86:E1.fn _=_) rfl ?_ ho' hf;show Ex E1 (.seq f86.body.l (.seq f86.body.r.l (.seq f86.body.r.r.l (.seq (.seq f86.body.r.r.r.l.l (.block 0 (.loop tkL))) f86.body.r.r.r.r)))) _ _;exact hA.seq (hB.seq (hC.seq ((hD.seq hl.block).seq hE)))
def fF (l ms:List a_):List a_:=ms.foldl (fun s p=>mP s p.1 p.2) l
theorem pO (l ms:List a_)(p:a_):fF l (ms++[p])=mP (fF l ms) p.1 p.2:=by simp[fF,Xj1]
theorem yB (l:List a_)(e:fT):∀ ms:List a_,tot (fF l ms) e=tot l e+tot (ms.filter fun p=>bR p.1) e:=by
 intro ms
 induction ms generalizing l with
 | nil=>simp only[fF,List.foldl_nil,List.filter_nil,tot];grind
 | cons p r ih =>
  show tot (fF (mP l p.1 p.2) r) e=_;rw[ih,B_]
  by_cases h:bR p.1=true
  ·rw[Xb2 (p:=fun p:a_=>bR p.1) h];obtain⟨a,y⟩:=p;simp only at h;simp only[tot,h,true_and];grind
  ·rw[Xb1 (p:=fun p:a_=>bR p.1) h];simp only[h,false_and,if_false];grind
theorem Jc {S T U:Nat}{l:List a_}(h:PV S l)(hS:1<=S)(hSU:S<=U):∀ {ms:List a_},Bd T ms->(∀ k e,qz (tot l e+tot ((ms.take k).filter fun p=>bR p.1) e)<=U)->PV U (fF l ms):=by
 intro ms hT hU;have main:∀ k,k<=ms.length->PV U (fF l (ms.take k)):=by
  intro k
  induction k with
  | zero=>intro _;simpa[fF] using h.mono hSU
  | succ k ih =>
   intro hk;have hp:ms[k]?=some ms[k]:=Qa1 ae;have e1:ms.take (k+1)=ms.take k++[ms[k]]:=by rw[Q82,hp];rfl
   have h1:=ih ae;rw[e1,pO];refine YR h1 ae (hT _ (Qi0 ae)) (fun e' => ?_);have h2:=hU (k+1) e';have h3:=yB l e' (ms.take (k+1));rw[e1,pO,B_]at h3;rw[h3,<-e1];exact h2
 have:=main ms.length (Qd1 _)
 rwa [Qn0]at this
theorem zA {ms:List a_}(h:Fits ms):(ms.filter fun p=>bR p.1)=ms:=X22.2 (fun p hp=>h p hp)
theorem L9 {S T:Nat}(hS:1<=S)(hT:1<=T){a b:List a_}(ha:PV S a)(hb:PV T b)(k:Nat)(e:fT):qz (tot a e+tot ((b.take k).filter fun p=>bR p.1) e)<=S+T+1:=by
 have hf:Fits (b.take k):=fun p hp=>hb.fits p (Qn1 hp)
 rw[zA hf];have h1:=BX hS (jg ha.LW) ha.bd e;have hk:Keys (b.take k):=Xt1 ((List.take_sublist k b).map _) (jg hb.LW);have h2:=BX hT hk (fun p hp=>hb.bd p (Qn1 hp)) e;have:=o8 (tot a e) (tot (b.take k) e);omega
theorem fold_add {S T:Nat}(hS:1<=S)(hT:1<=T){a b:List a_}(ha:PV S a)(hb:PV T b)(k:Nat):PV (S+T+1) (fF a (b.take k)):=by
 refine Jc (T:=T) ha hS ae (fun p hp=>hb.bd p (Qn1 hp)) (fun j e => ?_);rw[List.take_take];exact L9 hS hT ha hb _ e
theorem Jd {S T:Nat}(hS:1<=S)(hT:1<=T){a b:List a_}(ha:PV S a)(hb:PV T b):fF a b=gz a b:=by
 have h1:=fold_add hS hT ha hb b.length;rw[Qn0]at h1;refine PV.ext h1 (gP hS hT ha hb) (fun e => ?_);rw[yB,jK,zA hb.fits]
def adL:aF:=f49.body.r.r.l.r.bl.lp
def RS (b:List D)(acc:D)(i:Nat)(t:FV):St:=(st0 [.u,.d (.s 6 b),.u,.d acc,dI i,t] [])
theorem Uy (es:List D)(l:List a_)(i:Nat)(p:a_)(hi:es[i]?=some (qC p.1 p.2))(hn:es.length<=1000000)(hl:l.length<=1000000)(hb:Bd 50000 l)(hp:qz p.2<=50000):Ex E1 adL (RS es (aZ l) i .u) (.norm,RS es (aZ (mP l p.1 p.2)) (i+1) .u):=by
 have hil:i<es.length:=(bq hi)
 have aR:ai .i64 ((i:Int)+1)=(i:Int)+1:=wrap_i64 ae;have hk1:((i+1:Nat):Int)=(i:Int)+1:=ae;have hk0:(0:Int)<=(i:Int):=ae;have hkc:(i:Int)<(es.length:Int):=ae;obtain⟨N,t⟩:=(L8 l p.1 p.2 hl hb hp).get;refine Ex.of (n:=N+100) ?_;unfold RS aZ at*;rw[hk1];generalize ((mP l p.1 p.2).map fun p=>qC p.1 p.2)=y,(l.map fun p=>qC p.1 p.2)=z at*;simp only[qC,Aa,LD]at*;generalize LL (qn p.2)=ns,LL (qd p.2)=ds at*;have i1:=idx hi;simp[adL,f49,aR,hk0,hkc,hil,hi,i1,t]
theorem YY {S:Nat}(hS:1<=S)(hS2:S<=20000){a b:List a_}(ha:PV S a)(hb:PV S b) :
  Ex E1 (.loop adL) (RS (b.map fun p=>qC p.1 p.2) (aZ a) 0 .u) (.exit 0,RS (b.map fun p=>qC p.1 p.2) (aZ (gz a b)) b.length (dB false)):=by
 have hlen:(b.map fun p=>qC p.1 p.2).length=b.length:=aA;have lb:=hb.length;obtain⟨r,h1,rfl⟩:=Ex.inv (E:=E1) (b:=adL) (S:=fun i:Nat=>RS (b.map fun p=>qC p.1 p.2) (aZ (fF a (b.take i))) i .u) (fun i=>b.length-i) (fun i=>i<=b.length)
  (fun r=>r=(.exit 0,RS (b.map fun p=>qC p.1 p.2) (aZ (gz a b)) b.length (dB false))) (by
   intro i hi
   by_cases h:i<b.length
   ·have hp:b[i]?=some b[i]:=Qa1 h;have hp2:(b.map fun p=>qC p.1 p.2)[i]?=some (qC b[i].1 b[i].2):=by rw[Qb2,hp];rfl
    have hpv:=fold_add hS hS ha hb i;have:=Uy _ (fF a (b.take i)) i b[i] hp2 ae (by have:=hpv.length;omega) (hpv.bd.mono ae) (by have:=hb.bd _ (Qi0 h);omega);refine .inl ⟨i+1,?_,ae,ae⟩;have e1:b.take (i+1)=b.take i++[b[i]]:=by rw[Q82,hp];rfl
    rw[e1,pO];exact this
   ·obtain rfl:i=b.length:=ae;refine .inr ⟨_,Ex.of (n:=60) ?_,?_,rfl⟩
    ·rw[Qn0,Jd hS hS ha hb];unfold RS;rw[<-hlen];generalize (b.map fun p=>qC p.1 p.2)=es,aZ (gz a b)=x at*;simp[adL,f49]
    ·simp) 0 (Qy1 _)
 simpa[fF] using h1
theorem Je {S:Nat}(hS:1<=S)(hS2:S<=1000){a b:List a_}(ha:PV S a)(hb:PV S b):Ca E1 49 [.d (aZ a),.d (aZ b)] (.d (aZ (gz a b)),none):=by
 obtain⟨_,h1,rfl⟩:=pM ha hS2;obtain⟨_,h2,rfl⟩:=pM hb hS2;obtain⟨N,hN,t1,t2⟩:=(h1.j h2.any).at 0;have hl:=YY hS ae ha hb;have hA:Ex E1 f49.body.l (st0 (.d (aZ a)::.d (aZ b)::vR) []) (.norm,(st0 (.d (aZ a)::.d (aZ b)::vR) [])):=by
  apply e6;generalize aZ a=x;generalize aZ b=y;simp[f49]
 have hB := nx hA f49.body.r.l (st0 [.u,.d (aZ b),.u,.d (aZ a),.u,.u] []) (by
  refine Ex.of (n:=N+60) ?_;unfold aZ at*;generalize (a.map fun p=>qC p.1 p.2)=x,(b.map fun p=>qC p.1 p.2)=y at*;simp[f49,t1,t2])
 have hC := nx hB f49.body.r.r.l.l (RS (b.map fun p=>qC p.1 p.2) (aZ a) 0 .u) (by
  apply e6;unfold RS aZ;simp[f49])
 have hD:Ex E1 f49.body.r.r.r (RS (b.map fun p=>qC p.1 p.2) (aZ (gz a b)) b.length (dB false)) (.ret,(st0 (.u::.u::.d (aZ (gz a b))::u3K) [])):=by
  apply e6;unfold RS aZ;generalize ((gz a b).map fun p=>qC p.1 p.2)=x,(b.map fun p=>qC p.1 p.2)=y at*;simp[f49]
 refine Ca.body (o:=.ret) rfl (aM 49 f49:E1.fn _=_) rfl ?_ (by intro id h;cases h) (st1:=(st0 (.u::.u::.d (aZ (gz a b))::u3K) [])) ?_
 ·show Ex E1 (.seq f49.body.l (.seq f49.body.r.l (.seq (.seq f49.body.r.r.l.l (.block 0 (.loop adL))) f49.body.r.r.r))) _ _;exact hA.seq (hB.seq ((hC.seq hl.block).seq hD))
 ·unfold aZ;generalize ((gz a b).map fun p=>qC p.1 p.2)=x at*;simp[f49]
def EW:aF:=f58.body.r.r.r.l.r.bl.lp
def Cc:aF:=EW.r.l.bl
def KN:aF:=Cc.r.bl.lp
def Ce:aF:=KN.r.l.bl
def xmE:aF:=Ce.r.l.r.bl.lp
def nV (xa xb:List D)(acc:D)(i k:Nat)(v5 v6 v7 t9 t10:FV)(L:List ah):St :=
 (st0 [.d (.s 6 xa),.d (.s 6 xb),.u,.d acc,dI i,v5,v6,v7,.u,t9,t10] L)
theorem YZ (xa xb:List D)(acc:D)(i k:Nat)(L:List ah)(p q:a_)(y:Rat)(hi:xa[i]?=some (qC p.1 p.2))(hk:xb[k]?=some (qC q.1 q.2))(hn:xa.length<=1000000)(hn2:xb.length<=1000000)(hp:bR p.1=true)(hq:bR q.1=true) :
  Ex E1 Ce.r.l (nV xa xb acc i 0 (dI k) (rL L.length) .u .u .u (L++[nJ ((0,0,0),y)]))
   (.norm,nV xa xb acc i 0 (dI k) (rL L.length) (dI 3) .u (dB false) (L++[nJ (iD p.1 q.1,y)])):=by
 have h1:=fD hp;have h2:=fD hq;have hil:i<xa.length:=(bq hi)
 have hkl:k<xb.length:=(bq hk)
 have hi0:(0:Int)<=(i:Int):=ae;have hk0:(0:Int)<=(k:Int):=ae;obtain⟨⟨a,b,c⟩,x⟩:=p;obtain⟨⟨a',b',c'⟩,x'⟩:=q;simp only at h1 h2;have w1:ai .i64 (a+a')=a+a':=wrap_i64 ae;have w2:ai .i64 (b+b')=b+b':=wrap_i64 ae;have w3:ai .i64 (c+c')=c+c':=wrap_i64 ae;have u1:ai .i64 1=1:=wrap_i64 ae;have u2:ai .i64 2=2:=wrap_i64 ae;have u3:ai .i64 3=3:=wrap_i64 ae;have g6:∀ o,(L++[o])[L.length]?=some o:=fun o=>by simp
 have gs:∀ o o',(L++[o]).set L.length o'=L++[o']:=fun o o'=>by rw[Q30 _ _ (Qd1 _)];simp
 refine Ex.of (n:=200) ?_;unfold nV;simp only[nJ,qC,Aa,iD,LD]at*;generalize qs x=s,LL (qn x)=ns,LL (qd x)=ds at*;generalize qs x'=s',LL (qn x')=ns',LL (qd x')=ds',qs y=s'',LL (qn y)=ab7,LL (qd y)=ds'' at*;have i1:=idx hi;have i2:=idx hk;simp[Ce,xmE,KN,Cc,EW,f58,aC,w1,w2,w3,u1,u2,u3,hi,hk,i1,i2,hi0,hk0,hil,hkl,g6,gs]
def Acc (d:D)(l:List a_):Prop:=d=aZ l\/(d=.n 6/\l=[])
theorem Uz (xa xb:List D)(i k:Nat)(acc:D)(L:List ah)(l:List a_)(hacc:Acc acc l)(p q:a_)(hi:xa[i]?=some (qC p.1 p.2))(hk:xb[k]?=some (qC q.1 q.2))(hn:xa.length<=1000000)(hn2:xb.length<=1000000)
  (hp:bR p.1=true) (hq:bR q.1=true) (sp:qz p.2<=20000) (sq:qz q.2<=20000) (hl:Bd 50000 l) (hll:l.length<=1000000) :
  ∃ L',Ex E1 KN (nV xa xb acc i 0 (dI k) .u .u .u .u L) (.norm,nV xa xb (aZ (mP l (iD p.1 q.1) (p.2*q.2))) i 0 (dI (k+1:Nat)) .u .u .u .u L'):=by
 have hil:i<xa.length:=(bq hi)
 have hkl:k<xb.length:=(bq hk)
 have aR:ai .i64 ((k:Int)+1)=(k:Int)+1:=wrap_i64 ae;have hk1:((k+1:Nat):Int)=(k:Int)+1:=ae;have hi0:(0:Int)<=(i:Int):=ae;have hk0:(0:Int)<=(k:Int):=ae;have hkc:(k:Int)<(xb.length:Int):=ae;have hz:=Bq p.2 q.2;refine⟨L++[nJ (iD p.1 q.1,p.2*q.2)],?_⟩;have hA1:Ex E1 KN.l (nV xa xb acc i 0 (dI k) .u .u .u .u L) (.norm,nV xa xb acc i 0 (dI k) .u .u (dB true) .u L):=by
  apply e6;unfold nV;simp[KN,Cc,EW,f58,hkc]
 have hB := nx hA1 Ce.l (nV xa xb acc i 0 (dI k) (rL L.length) .u .u .u (L++[nJ ((0,0,0),p.2*q.2)])) (by
  obtain⟨N,t⟩:=(Ca.ib (Gs p.2 q.2 ae ae)).get;refine Ex.of (n:=N+100) ?_;unfold nV;generalize p.2*q.2=y at*;obtain⟨⟨a,b,c⟩,x⟩:=p;obtain⟨⟨a',b',c'⟩,x'⟩:=q;simp only[nJ,qC,Aa,qD,raw,LD]at*;generalize qs x=s,LL (qn x)=ns,LL (qd x)=ds at*;generalize qs x'=s',LL (qn x')=ns',LL (qd x')=ds',qs y=s'',LL (qn y)=ab7,LL (qd y)=ds'' at*;have i1:=idx hi;have i2:=idx hk;simp[Ce,KN,Cc,EW,f58,t,hi,hk,i1,i2,hi0,hk0,hil,hkl])
 have hE:=YZ xa xb acc i k L p q (p.2*q.2) hi hk hn hn2 hp hq;have hZ:Ex E1 Ce.r.r (nV xa xb acc i 0 (dI k) (rL L.length) (dI 3) .u (dB false) (L++[nJ (iD p.1 q.1,p.2*q.2)]))
   (.norm,nV xa xb (aZ (mP l (iD p.1 q.1) (p.2*q.2))) i 0 (dI k) .u .u .u .u (L++[nJ (iD p.1 q.1,p.2*q.2)])):=by
  obtain⟨N,t⟩:=(L8 l (iD p.1 q.1) (p.2*q.2) hll hl ae).get;have g6:∀ o,(L++[o])[L.length]?=some o:=fun o=>by simp
  refine Ex.of (n:=N+100) ?_;clear hA1 hB hE;have hacc':(acc=aZ l)\/(acc=.n 6/\aZ l=.s 6 []):=by
   rcases hacc with h|⟨h,h'⟩
   ·exact .inl h
   ·exact .inr ⟨h,by rw[h'];rfl⟩
  unfold nV aZ at*;generalize ((mP l (iD p.1 q.1) (p.2*q.2)).map fun p=>qC p.1 p.2)=y',(l.map fun p=>qC p.1 p.2)=z at*;generalize iD p.1 q.1=e,p.2*q.2=y at*;simp only[nJ,qC,Aa,LD]at*;generalize qs y=s'',LL (qn y)=ab7,LL (qd y)=ds'' at*;rcases hacc' with rfl|⟨rfl,h2⟩
  ·simp[Ce,KN,Cc,EW,f58,t,g6]
  ·cases h2;simp[Ce,KN,Cc,EW,f58,t,g6]
 have hF := nx hZ KN.r.r (nV xa xb (aZ (mP l (iD p.1 q.1) (p.2*q.2))) i 0 (dI (k+1:Nat)) .u .u .u .u (L++[nJ (iD p.1 q.1,p.2*q.2)])) (by
  apply e6;unfold nV;rw[hk1];generalize aZ (mP l (iD p.1 q.1) (p.2*q.2))=z;simp[KN,Cc,EW,f58,aR])
 show Ex E1 (.seq KN.l (.seq (.block 3 (.seq Ce.l (.seq Ce.r.l Ce.r.r))) KN.r.r)) _ _;exact hA1.seq (((hB.seq (hE.seq hZ)).gp).seq hF)
def bU (p:a_)(b:List a_):List a_:=b.map fun q=>(iD p.1 q.1,p.2*q.2)
def bC (a b:List a_):List a_:=a.flatMap fun p=>bU p b
theorem L_ (a b:List a_)(p:a_):bC (a++[p]) b=bC a b++bU p b:=by simp[bC,X30]
theorem Gz (a b:List a_):(bC a b).length=a.length*b.length:=by
 induction a with
 | nil=>simp[bC]
 | cons p r ih =>
  have h1:bC (p::r) b=bU p b++bC r b:=by simp[bC]
  rw[h1,Qb0,ih,Qg0,Qp1];simp[bU];omega
theorem lW (a b:List a_):((bC a b).filter fun p=>bR p.1)=gN a b:=by
 unfold bC gN;rw[List.filter_flatMap];rfl
theorem Jf {S:Nat}{p:a_}{b:List a_}(hp:qz p.2<=S)(hb:Bd S b):Bd (2*S) (bU p b):=by
 intro x hx;obtain⟨q,hq,rfl⟩:=Qi1.1 hx;have:=Bq p.2 q.2;have:=hb q hq;show qz (p.2*q.2)<=_;omega
theorem Jg {S:Nat}{a b:List a_}(ha:Bd S a)(hb:Bd S b):Bd (2*S) (bC a b):=by
 intro x hx;obtain⟨p,hp,hx⟩:=Xz1.1 hx;exact Jf (ha p hp) hb x hx
theorem EY {T:Nat}(hT:1<=T):∀ {l:List a_},Bd T l->∀ e,qz (tot l e)<=l.length*(T+1)+1
 | [],_,e=>by
  have:=jJ;simp only[tot,Qr1];omega
 | p::l,h,e=>by
  have h1:=EY hT (l:=l) (fun x hx=>h x (Qf1 _ hx)) e;have h2:=h p (Qj0 ..);obtain⟨a,y⟩:=p;have h3:=o8 (if a=e then y else 0) (tot l e);have h4:qz (if a=e then y else 0)<=T:=by
   split
   ·exact h2
   ·exact Qc2 jJ ae
  simp only[tot,Qg0,Qp1];omega
theorem EZ {T N:Nat}(hT:1<=T){ms:List a_}(hb:Bd T ms)(hn:ms.length<=N):PV (N*(T+1)+1) (fF [] ms):=by
 refine Jc (S:=1) (T:=T) (PV.nil 1) ae ae hb (fun k e => ?_);have h1:tot [] e+tot ((ms.take k).filter fun p=>bR p.1) e=tot ((ms.take k).filter fun p=>bR p.1) e:=by simp only[tot];grind
 rw[h1];have h2:=EY hT (l:=(ms.take k).filter fun p=>bR p.1) (fun p hp=>hb p (Qn1 (Qz1.1 hp).1)) e;have h3:((ms.take k).filter fun p=>bR p.1).length<=N:=Qc2 (Xh1 _ _) (by rw[Qr0];omega);exact Qc2 h2 (X11 (Qe0 _ h3) 1)
theorem Jh {S:Nat}(hS:1<=S){a b:List a_}(ha:PV S a)(hb:PV S b):fF [] (bC a b)=iJ a b:=by
 refine PV.ext (EZ (T:=2*S) ae (Jg ha.bd hb.bd) (Qd1 _)) (iA hS ha hb) (fun e => ?_);rw[yB,lW,wN];simp only[tot];grind
theorem Y0 {S:Nat}(hS:1<=S)(hS2:S<=1000)(xa:List D)(b pre:List a_)(i:Nat)(acc:D)(hacc:Acc acc (fF [] pre))(L:List ah)(p:a_)(hi:xa[i]?=some (qC p.1 p.2))(hn:xa.length<=1000000)(hp:bR p.1=true)(sp:qz p.2<=S)(hb:PV S b)
  (hpre:Bd (2*S) pre) (hm:(pre.length+b.length)*(2*S+1)<=40000) :
  ∃ acc' L',Acc acc' (fF [] (pre++bU p b))/\Ex E1 (.loop KN) (nV xa (b.map fun p=>qC p.1 p.2) acc i 0 (dI 0) .u .u .u .u L)
   (.exit 2,nV xa (b.map fun p=>qC p.1 p.2) acc' i 0 (dI b.length) .u .u (dB false) .u L'):=by
 have hlen:(b.map fun p=>qC p.1 p.2).length=b.length:=aA;have lb:=hb.length;obtain⟨r,h1,acc',L',rfl,h2⟩:=Ex.inv (E:=E1) (b:=KN) (α:=Nat × D × List ah) (S:=fun x=>nV xa (b.map fun p=>qC p.1 p.2) x.2.1 i 0 (dI x.1) .u .u .u .u x.2.2) (fun x=>b.length-x.1) (fun x=>x.1<=b.length/\Acc x.2.1 (fF [] (pre++bU p (b.take x.1))))
  (fun r=>∃ acc' L',r=(.exit 2,nV xa (b.map fun p=>qC p.1 p.2) acc' i 0 (dI b.length) .u .u (dB false) .u L')/\Acc acc' (fF [] (pre++bU p b))) (by
   rintro⟨k,acc,L⟩ ⟨hk,ha⟩;simp only at hk ha
   by_cases h:k<b.length
   ·have hpk:b[k]?=some b[k]:=Qa1 h;have hp2:(b.map fun p=>qC p.1 p.2)[k]?=some (qC b[k].1 b[k].2):=by rw[Qb2,hpk];rfl
    have hmem:=Qi0 h;have hpv:PV 40001 (fF [] (pre++bU p (b.take k))):=by
     refine(EZ (T:=2*S) (N:=pre.length+b.length) ae (fun x hx => ?_) (by simp[bU];omega)).mono ae;rcases Qv0.1 hx with hx|hx
     ·exact hpre x hx
     ·exact Jf sp (fun y hy=>hb.bd y (Qn1 hy)) x hx
    have hsq:=hb.bd _ hmem;obtain⟨L',g⟩:=Uz xa _ i k acc L (fF [] (pre++bU p (b.take k))) ha p b[k] hi hp2 hn ae hp (hb.fits _ hmem) ae ae (hpv.bd.mono ae) (by have:=hpv.length;omega);have e1:bU p (b.take (k+1))=bU p (b.take k)++[(iD p.1 b[k].1,p.2*b[k].2)]:=by
     rw[Q82,hpk];unfold bU;rw[Qp2];rfl
    refine .inl ⟨(k+1,aZ (mP (fF [] (pre++bU p (b.take k))) (iD p.1 b[k].1) (p.2*b[k].2)),L'),g,by show b.length-(k+1)<b.length-k;omega,by show k+1<=_;omega,.inl ?_⟩;show _=aZ (fF [] (pre++bU p (b.take (k+1))));rw[e1,<-Qp0,pO]
   ·obtain rfl:k=b.length:=ae;rw[Qn0]at ha;refine .inr ⟨_,Ex.of (n:=60) ?_,?_,acc,L,rfl,ha⟩
    ·unfold nV;rw[<-hlen];generalize (b.map fun p=>qC p.1 p.2)=es at*;simp[KN,Cc,EW,f58]
    ·simp) (0,acc,L) ⟨Qy1 _,by simpa[bU] using hacc⟩
 exact⟨acc',L',h2,h1⟩
theorem UA {S:Nat}(hS:1<=S)(hS2:S<=1000)(a b pre:List a_)(i:Nat)(acc:D)(hacc:Acc acc (fF [] pre))(L:List ah)(p:a_)(hi:a[i]?=some p)(hn:a.length<=1000000)(hp:bR p.1=true)(sp:qz p.2<=S)(hb:PV S b)
  (hpre:Bd (2*S) pre) (hm:(pre.length+b.length)*(2*S+1)<=40000) :
  ∃ acc' L',Acc acc' (fF [] (pre++bU p b))/\Ex E1 EW (nV (a.map fun p=>qC p.1 p.2) (b.map fun p=>qC p.1 p.2) acc i 0 .u .u .u .u .u L)
   (.norm,nV (a.map fun p=>qC p.1 p.2) (b.map fun p=>qC p.1 p.2) acc' (i+1) 0 .u .u .u .u .u L'):=by
 have hlen:(a.map fun p=>qC p.1 p.2).length=a.length:=aA;have hil:i<a.length:=(bq hi)
 have hi2:(a.map fun p=>qC p.1 p.2)[i]?=some (qC p.1 p.2):=by rw[Qb2,hi];rfl
 have aR:ai .i64 ((i:Int)+1)=(i:Int)+1:=wrap_i64 ae;have hk1:((i+1:Nat):Int)=(i:Int)+1:=ae;have hkc:(i:Int)<((a.map fun p=>qC p.1 p.2).length:Int):=by rw[hlen];omega
 obtain⟨acc',L',hac,hl⟩:=Y0 hS hS2 _ b pre i acc hacc L p hi2 (by rw[hlen];exact hn) hp sp hb hpre hm;refine⟨acc',L',hac,?_⟩;have hA:Ex E1 EW.l (nV (a.map fun p=>qC p.1 p.2) (b.map fun p=>qC p.1 p.2) acc i 0 .u .u .u .u .u L)
   (.norm,{nV (a.map fun p=>qC p.1 p.2) (b.map fun p=>qC p.1 p.2) acc i 0 .u .u .u .u .u L with vars:=(nV (a.map fun p=>qC p.1 p.2) (b.map fun p=>qC p.1 p.2) acc i 0 .u .u .u .u .u L).vars.set 8 (dB true)}):=by
  apply e6;unfold nV;generalize (a.map fun p=>qC p.1 p.2)=x at*;simp[EW,f58,hkc]
 have hB := nx hA Cc.l (nV (a.map fun p=>qC p.1 p.2) (b.map fun p=>qC p.1 p.2) acc i 0 (dI 0) .u .u .u .u L) (by
  apply e6;unfold nV;generalize (a.map fun p=>qC p.1 p.2)=x,(b.map fun p=>qC p.1 p.2)=y at*;simp[Cc,EW,f58])
 have hF:Ex E1 EW.r.r (nV (a.map fun p=>qC p.1 p.2) (b.map fun p=>qC p.1 p.2) acc' i 0 (dI b.length) .u .u (dB false) .u L')
   (.norm,nV (a.map fun p=>qC p.1 p.2) (b.map fun p=>qC p.1 p.2) acc' (i+1) 0 .u .u .u .u .u L'):=by
  apply e6;unfold nV;rw[hk1];generalize (a.map fun p=>qC p.1 p.2)=x,(b.map fun p=>qC p.1 p.2)=y at*;simp[EW,f58,aR]
 show Ex E1 (.seq EW.l (.seq (.block 1 (.seq Cc.l (.block 2 (.loop KN)))) EW.r.r)) _ _;exact hA.seq (((hB.seq hl.block).gp).seq hF)
theorem Y1 {S:Nat}(hS:1<=S)(hS2:S<=1000){a b:List a_}(ha:PV S a)(hb:PV S b)(hm:(a.length*b.length+b.length)*(2*S+1)<=40000) :
  ∃ acc L',Acc acc (iJ a b)/\Ex E1 (.loop EW) (nV (a.map fun p=>qC p.1 p.2) (b.map fun p=>qC p.1 p.2) (.n 6) 0 0 .u .u .u .u .u [])
   (.exit 0,{nV (a.map fun p=>qC p.1 p.2) (b.map fun p=>qC p.1 p.2) acc a.length 0 .u .u .u .u .u L' with vars:=(nV (a.map fun p=>qC p.1 p.2) (b.map fun p=>qC p.1 p.2) acc a.length 0 .u .u .u .u .u L').vars.set 8 (dB false)}):=by
 have hlen:(a.map fun p=>qC p.1 p.2).length=a.length:=aA;have la:=ha.length;obtain⟨r,h1,acc,L',rfl,h2⟩:=Ex.inv (E:=E1) (b:=EW) (α:=Nat × D × List ah) (S:=fun x=>nV (a.map fun p=>qC p.1 p.2) (b.map fun p=>qC p.1 p.2) x.2.1 x.1 0 .u .u .u .u .u x.2.2) (fun x=>a.length-x.1) (fun x=>x.1<=a.length/\Acc x.2.1 (fF [] (bC (a.take x.1) b)))
  (fun r=>∃ acc L',r=(.exit 0,{nV (a.map fun p=>qC p.1 p.2) (b.map fun p=>qC p.1 p.2) acc a.length 0 .u .u .u .u .u L' with vars:=(nV (a.map fun p=>qC p.1 p.2) (b.map fun p=>qC p.1 p.2) acc a.length 0 .u .u .u .u .u L').vars.set 8 (dB false)})/\Acc acc (iJ a b)) (by
   rintro⟨i,acc,L⟩ ⟨hi,hac⟩;simp only at hi hac
   by_cases h:i<a.length
   ·have hpk:a[i]?=some a[i]:=Qa1 h;have hmem:=Qi0 h;obtain⟨acc',L',ahZ,g⟩:=UA hS hS2 a b (bC (a.take i) b) i acc hac L a[i] hpk ae (ha.fits _ hmem) (ha.bd _ hmem) hb (Jg (fun x hx=>ha.bd x (Qn1 hx)) hb.bd) (by
     refine Qc2 (Qe0 _ ?_) hm;rw[Gz,Qr0,Xr1 ae];exact X11 (Qe0 _ ae) _)
    have e1:bC (a.take (i+1)) b=bC (a.take i) b++bU a[i] b:=by
     rw[Q82,hpk];exact L_ _ _ _
    refine .inl ⟨(i+1,acc',L'),g,by show a.length-(i+1)<a.length-i;omega,by show i+1<=_;omega,?_⟩;show Acc acc' (fF [] (bC (a.take (i+1)) b));rw[e1];exact ahZ
   ·obtain rfl:i=a.length:=ae;rw[Qn0,Jh hS ha hb]at hac;refine .inr ⟨_,Ex.of (n:=60) ?_,?_,acc,L,rfl,hac⟩
    ·unfold nV;rw[<-hlen];generalize (a.map fun p=>qC p.1 p.2)=x,(b.map fun p=>qC p.1 p.2)=y at*;simp[EW,f58]
    ·simp) (0,.n 6,[]) ⟨Qy1 _,.inr ⟨rfl,rfl⟩⟩
 exact⟨acc,L',h2,h1⟩
theorem Ji {S:Nat}(hS:1<=S)(hS2:S<=1000){a b:List a_}(ha:PV S a)(hb:PV S b)(hm:(a.length*b.length+b.length)*(2*S+1)<=40000):Ca E1 58 [.d (aZ a),.d (aZ b)] (.d (aZ (iJ a b)),none):=by
 obtain⟨_,h1,rfl⟩:=pM ha hS2;obtain⟨_,h2,rfl⟩:=pM hb hS2;obtain⟨N,hN,t1,t2⟩:=(h1.j h2.any).at 0;obtain⟨acc,L',hac,hl⟩:=Y1 hS hS2 ha hb hm;have hA:Ex E1 f58.body.l (st0 (.d (aZ a)::.d (aZ b)::NB) []) (.norm,(st0 (.d (aZ a)::.d (aZ b)::NB) [])):=by
  apply e6;generalize aZ a=x;generalize aZ b=y;simp[f58]
 have hB := nx hA f58.body.r.l (st0 (.d (aZ a)::.d (aZ b)::NB) []) (by
  refine Ex.of (n:=N+60) ?_;unfold aZ at*;generalize (a.map fun p=>qC p.1 p.2)=x,(b.map fun p=>qC p.1 p.2)=y at*;simp[f58,t1,t2])
 have hC := nx hB f58.body.r.r.l (st0 (.d (aZ a)::.d (aZ b)::.u::.d (.n 6)::sO) []) (by
  apply e6;generalize aZ a=x;generalize aZ b=y;simp[f58])
 have hD := nx hC f58.body.r.r.r.l.l (nV (a.map fun p=>qC p.1 p.2) (b.map fun p=>qC p.1 p.2) (.n 6) 0 0 .u .u .u .u .u []) (by
  apply e6;unfold nV aZ;generalize (a.map fun p=>qC p.1 p.2)=x,(b.map fun p=>qC p.1 p.2)=y at*;simp[f58])
 have hE:Ex E1 f58.body.r.r.r.r {nV (a.map fun p=>qC p.1 p.2) (b.map fun p=>qC p.1 p.2) acc a.length 0 .u .u .u .u .u L' with vars:=(nV (a.map fun p=>qC p.1 p.2) (b.map fun p=>qC p.1 p.2) acc a.length 0 .u .u .u .u .u L').vars.set 8 (dB false)}
   (.ret,(st0 (.u::.u::.d acc::zZ) (L'))):=by
  apply e6;unfold nV;generalize (a.map fun p=>qC p.1 p.2)=x,(b.map fun p=>qC p.1 p.2)=y at*;simp[f58]
 refine Ca.body (o:=.ret) rfl (aM 58 f58:E1.fn _=_) rfl ?_ (by intro id h;cases h) (st1:=(st0 (.u::.u::.d acc::zZ) (L'))) ?_
 ·show Ex E1 (.seq f58.body.l (.seq f58.body.r.l (.seq f58.body.r.r.l (.seq (.seq f58.body.r.r.r.l.l (.block 0 (.loop EW))) f58.body.r.r.r.r)))) _ _;exact hA.seq (hB.seq (hC.seq ((hD.seq hl.block).seq hE)))
 ·rcases hac with rfl|⟨rfl,h⟩
  ·unfold aZ;generalize ((iJ a b).map fun p=>qC p.1 p.2)=x at*;simp[f58]
  ·rw[h];simp[f58,aZ]
def bZ (x:Rat):List a_:=if x=0 then [] else [((0,0,0),x)]
theorem UB (x:Rat):mP [] (0,0,0) x=bZ x:=by
 unfold mP bZ oH;have h:bR (0,0,0)=true:=cK
 by_cases hx:x=0
 ·rw[if_pos hx,if_neg (fun h=>h.2 hx)]
 ·rw[if_neg hx,if_pos ⟨h,hx⟩]
theorem j_ {S:Nat}{x:Rat}(h:qz x<=S):PV S (bZ x):=by
 unfold bZ;split
 ·exact PV.nil S
 ·rename_i hx;refine⟨Qq1.2 ⟨fun _ h=>(by cases h),List.Pairwise.nil⟩,fun p hp => ?_,fun p hp => ?_,fun p hp => ?_⟩<;>(rw[Qz0]at hp;subst hp)
  ·exact hx
  ·exact(by decide:bR (0,0,0)=true)
  ·exact h
theorem E5 (x:Rat)(hx:qz x<=50000):Ca E1 48 [.d (qD x)] (.d (aZ (bZ x)),none):=by
 obtain⟨N1,t1⟩:=(Ca.ib (iI x ae)).any;have hp:=L8 [] (0,0,0) x aA (fun p hp=>by cases hp) hx;rw[UB]at hp;obtain⟨N2,t2⟩:=hp.any;obtain⟨N,hN⟩:∃ N,N=N1+N2:=⟨_,rfl⟩
 replace t1:=t1 N ae;replace t2:=t2 N ae;refine Ca.bP (n:=N+100) ?_;rw[av rfl (aM 48 f48:E1.fn _=_) rfl];unfold aZ at*;generalize ((bZ x).map fun p=>qC p.1 p.2)=es at*;simp only[qC,Aa,qD,raw,LD,Qc1]at*;generalize qs x=s,LL (qn x)=ns,LL (qd x)=ds at*;simp[f48,t1,t2]
theorem P_ {S:Nat}(hS:1<=S)(hS2:S<=1000){a:List a_}(ha:PV S a)(x:Rat)(hx:qz x<=S)(hm:(a.length+1)*(2*S+1)<=40000):Ca E1 50 [.d (aZ a),.d (qD x)] (.d (aZ (iJ a (bZ x))),none):=by
 have hc:=j_ hx;have hl:(bZ x).length<=1:=by unfold bZ;split<;>simp
 obtain⟨N1,t1⟩:=(E5 x ae).any;obtain⟨N2,t2⟩:=(Ji hS hS2 ha hc (by
  refine Qc2 (Qe0 _ ?_) hm;have:=Qy0 a.length hl;omega)).any
 obtain⟨N,hN⟩:∃ N,N=N1+N2:=⟨_,rfl⟩
 replace t1:=t1 N ae;replace t2:=t2 N ae;refine Ca.bP (n:=N+100) ?_;rw[av rfl (aM 50 f50:E1.fn _=_) rfl];unfold aZ at*;generalize ((bZ x).map fun p=>qC p.1 p.2)=es,((iJ a (bZ x)).map fun p=>qC p.1 p.2)=es2,(a.map fun p=>qC p.1 p.2)=es3 at*;simp only[qD,raw,LD]at*;generalize qs x=s,LL (qn x)=ns,LL (qd x)=ds at*;simp[f50,t1,t2]
def ic (i:Nat):fT:=if i=0 then(1,0,0) else if i=1 then(0,1,0) else(0,0,1)
theorem Qa (i:Nat)(hi:i<3):Ca E1 51 [dI i] (.d (aZ [(ic i,1)]),none):=by
 have h1:=Ca.ib (BB 1 1 cK cK cK);have e1:q8 1 1=1:=by decide +kernel
 rw[e1]at h1;obtain⟨N,t⟩:=h1.get;have hi0:¬ (i:Int)<0:=ae;have hi3:¬ (3:Int)<=(i:Int):=ae;have akP:¬ (i:Int) ≥ 3:=ae;refine Ca.bP (n:=N+100) ?_;rw[av rfl (aM 51 f51:E1.fn _=_) rfl];have hp:aZ [(ic i,1)]=.s 6 [qC (ic i) 1]:=rfl;rw[hp]
 match i,hi with
 | 0,_ =>
  simp only[ic,if_true,qC,Aa,qD,raw,LD]at*;generalize qs 1=s,LL (qn 1)=ns,LL (qd 1)=ds at*;simp[f51,t]
 | 1,_ =>
  simp only[ic,qC,Aa,qD,raw,LD]at*;generalize qs 1=s,LL (qn 1)=ns,LL (qd 1)=ds at*;simp[f51,t]
 | 2,_ =>
  simp only[ic,qC,Aa,qD,raw,LD]at*;generalize qs 1=s,LL (qn 1)=ns,LL (qd 1)=ds at*;simp[f51,t]
theorem UC (v n:Int)(hn:0<n):(v.tmod n<0->v.tmod n+n=v % n)/\(¬ v.tmod n<0->v.tmod n=v % n):=by
 have h:=Int.tmod_eq_emod (a:=v) (b:=n);have h1:=Qo1 v (show n≠0 by omega);have h2:=Ql2 v hn;have h3:(n.natAbs:Int)=n:=ae;constructor
 ·intro hlt;rw[h]at hlt ⊢;split at hlt
  ·omega
  ·rename_i hh;rw[if_neg hh];omega
 ·intro hlt;rw[h]at hlt ⊢;split at hlt
  ·rename_i hh;rw[if_pos hh];omega
  ·rename_i hh;rw[if_neg hh];exfalso;have:v % n≠0:=fun h0=>hh (.inr (Int.dvd_of_emod_eq_zero h0))
   omega
theorem jr (v n:Int)(hv:gy v)(hn:0<n)(hn2:n<=1000000):Ca E0 46 [dI v,dI n] (dI (v % n),none):=by
 obtain⟨f1,f2⟩:=UC v n hn;have h1:=Qo1 v (show n≠0 by omega);have h2:=Ql2 v hn;have n0:n≠0:=ae;have n1:n≠-1:=ae;have n0':(n==0)=false:=by simpa using n0
 refine Ca.bP (n:=60) ?_;rw[av rfl (aM 46 f46:E0.fn _=_) rfl]
 by_cases h:v.tmod n<0
 ·have h3:=f1 h;have w0:ai .i64 (v.tmod n)=v.tmod n:=wrap_i64 ae;have w1:ai .i64 (v.tmod n+n)=v % n:=by rw[h3];exact wrap_i64 ae
  clear f1 f2 h3 h1 h2;simp[f46,n0,n0',w0,w1,h]
 ·have h3:=f2 h;have w0:ai .i64 (v.tmod n)=v.tmod n:=by rw[h3];exact wrap_i64 ae
  clear f1 f2 h1 h2;simp[f46,n0,n0',w0,h];exact h3
def uo (v:Int):Rat:=q8 (v % 13-6) (1+(v.tdiv 13) % 3)
theorem E8 (v:Int)(hv:gy v):Ca E0 47 [dI v] (.d (qD (uo v)),none):=by
 have h1:=Qo1 v (show(13:Int)≠0 by omega);have h2:=Ql2 v (show(0:Int)<13 by omega);have hd:gy (v.tdiv 13):=by
  have h:=Int.tdiv_eq_ediv (a:=v) (b:=13);have s13:Int.sign 13=1:=rfl;rw[s13]at h;unfold gy at*;split at h<;>omega
 have h3:=Qo1 (v.tdiv 13) (show(3:Int)≠0 by omega);have h4:=Ql2 (v.tdiv 13) (show(0:Int)<3 by omega);obtain⟨N,hN,t1,t2,t3⟩:=((jr v 13 hv ae ae).j ((jr (v.tdiv 13) 3 hd ae ae).j ((BB (v % 13-6) (1+(v.tdiv 13) % 3) ae ae ae).any))).at 0;have w0:ai .i64 (v.tdiv 13)=v.tdiv 13:=wrap_i64 hd;have w1:ai .i64 (v % 13-6)=v % 13-6:=wrap_i64 ae;have w2:ai .i64 (1+(v.tdiv 13) % 3)=1+(v.tdiv 13) % 3:=wrap_i64 ae;refine Ca.bP (n:=N+60) ?_;rw[av rfl (aM 47 f47:E0.fn _=_) rfl];have e:q8 (v % 13-6) (1+(v.tdiv 13) % 3)=uo v:=rfl;rw[e]at t3;generalize uo v=x at*;clear h1 h2 h3 h4 hd e hN;simp only[qD,raw,LD]at*;generalize qs x=s,LL (qn x)=ns,LL (qd x)=ds at*;simp[f47,t1,t2,t3,w0,w1,w2]
def rO (k:Int):Int:=if k % 7=5\/k % 7=6 then 6 else k % 7+1
def zB (k:Int):List Int:=if k % 7=5 then [1,2] else if k % 7=6 then [3,4,5] else []
theorem Y2 (k:Int)(hk:gy k):Ca E0 15 [dI k] (.d (aT (rO k) (zB k)),none):=by
 have h1:=Qo1 k (show(7:Int)≠0 by omega);have h2:=Ql2 k (show(0:Int)<7 by omega);have hj:gy (k % 7):=by unfold gy;omega
 have e7:k % 7 % 7=k % 7:=ae;obtain⟨N,hN,t1,t2⟩:=((jr k 7 hk ae ae).j ((jr (k % 7) 7 hj ae ae).any)).at 0;rw[e7]at t2;have w2:ai .i64 (k % 7+1)=k % 7+1:=wrap_i64 ae;refine Ca.bP (n:=N+100) ?_;rw[av rfl (aM 15 f15:E0.fn _=_) rfl];unfold rO zB aT LK;generalize k % 7=j at*;clear e7 hj h1 h2 hN
 by_cases h5:j=5
 ·subst h5;simp[f15,t1]
 ·by_cases h6:j=6
  ·subst h6;simp[f15,t1]
  ·have h5':(j==5)=false:=by simpa using h5
   have h6':(j==6)=false:=by simpa using h6
   simp[f15,t1,t2,h5,h6,h5',h6',w2]
end Fi.S
