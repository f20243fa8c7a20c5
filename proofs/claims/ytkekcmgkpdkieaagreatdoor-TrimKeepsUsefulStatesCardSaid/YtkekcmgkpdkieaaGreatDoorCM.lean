import Derived.Test.YtkekcmgkpdkieaaGreatDoorCN
set_option linter.unusedVariables false
set_option linter.unusedSimpArgs false
noncomputable section
namespace Fi.S
open Go Fi
set_option maxHeartbeats 8000000
def oW:List bS->jQ->Rat->List bS
 | [],e,c=>[(e,c)]
 | p::r,e,c=>if jG p.1 e=true then p::oW r e c else if p.1=e then(if c+p.2=0 then r else(e,c+p.2)::r) else(e,c)::p::r
def uz (l:List bS)(e:jQ)(c:Rat):List bS:=if eZ e=true/\c≠0 then oW l e c else l
theorem Bj {l:List bS}{e:jQ}{c:Rat}{p:bS}(h:p ∈ oW l e c):p=(e,c)\/p ∈ l\/∃ y,(e,y) ∈ l/\p=(e,c+y)/\c+y≠0:=by
 induction l with
 | nil=>exact .inl (by simpa[oW] using h)
 | cons q r ih =>
  unfold oW at h;split at h
  ·rcases Qg1.1 h with rfl|h
   ·exact .inr (.inl (Qi0 ..))
   ·rcases ih h with h|h|⟨y,h1,h2⟩
    ·exact .inl h
    ·exact .inr (.inl (Qf1 _ h))
    ·exact .inr (.inr ⟨y,Qf1 _ h1,h2⟩)
  ·split at h
   ·rename_i he;split at h
    ·exact .inr (.inl (Qf1 _ h))
    ·rename_i hn;rcases Qg1.1 h with rfl|h
     ·obtain⟨a,y⟩:=q;simp only at he;subst he;exact .inr (.inr ⟨y,Qi0 ..,rfl,hn⟩)
     ·exact .inr (.inl (Qf1 _ h))
   ·rcases Qg1.1 h with rfl|h
    ·exact .inl rfl
    ·exact .inr (.inl h)
theorem Su {l:List bS}{e:jQ}{c:Rat}(e':jQ):tot (oW l e c) e'=tot l e'+if e=e' then c else 0:=by
 induction l with
 | nil=>simp only[oW,tot];grind
 | cons q r ih =>
  obtain⟨a,y⟩:=q;unfold oW;split
  ·simp only[tot,ih];grind
  ·split
   ·rename_i he;simp only at he;subst he;split
    ·rename_i h0;simp only[tot]
     by_cases h:a=e'
     ·subst h;simp only[if_true];grind
     ·simp only[if_neg h];grind
    ·simp only[tot]
     by_cases h:a=e'
     ·subst h;simp only[if_true];grind
     ·simp only[if_neg h];grind
   ·simp only[tot];grind
theorem Sw {l:List bS}{e:jQ}{c:Rat}(h:ZG l):ZG (oW l e c):=by
 induction l with
 | nil=>exact Qn2.2 ⟨fun _ h=>(by cases h),List.Pairwise.nil⟩
 | cons q r ih =>
  have h':=Qn2.1 h;unfold oW;split
  ·rename_i hlt;refine Qn2.2 ⟨fun p hp => ?_,ih h'.2⟩;rcases Bj hp with rfl|hp|⟨y,_,rfl,_⟩
   ·exact hlt
   ·exact h'.1 p hp
   ·exact hlt
  ·rename_i hlt;split
   ·rename_i he;split
    ·exact h'.2
    ·refine Qn2.2 ⟨fun p hp => ?_,h'.2⟩;have:=h'.1 p hp;rw[he]at this;exact this
   ·rename_i hne;have hq:jG e q.1=true:=by
     cases h1:jG e q.1 with
     | true=>rfl
     | false=>exact absurd (jP (by simpa using hlt) h1) hne
    refine Qn2.2 ⟨fun p hp => ?_,h⟩;rcases Qg1.1 hp with rfl|hp
    ·exact hq
    ·exact lV hq (h'.1 p hp)
theorem Bl (l:List bS)(e:jQ)(c:Rat)(e':jQ):tot (uz l e c) e'=tot l e'+if eZ e=true/\e=e' then c else 0:=by
 unfold uz;split
 ·rename_i h;rw[Su]
  by_cases h2:e=e'
  ·rw[if_pos h2,if_pos ⟨h.1,h2⟩]
  ·rw[if_neg h2,if_neg (fun h3=>h2 h3.2)]
 ·rename_i h;split
  ·rename_i h2;have:c=0:=Classical.byContradiction fun h3=>h ⟨h2.1,h3⟩
   subst this;grind
  ·grind
theorem XE {S T U:Nat}{l:List bS}{e:jQ}{c:Rat}(h:PV S l)(hS:1<=S)(hT:qz c<=T)(hU:∀ e',qz (tot l e'+if eZ e=true/\e=e' then c else 0)<=U):PV U (uz l e c):=by
 have hs:ZG (uz l e c):=by
  unfold uz;split
  ·exact Sw h.Qn
  ·exact h.Qn
 refine⟨hs,fun p hp => ?_,fun p hp => ?_,fun p hp => ?_⟩
 ·unfold uz at hp;split at hp
  ·rename_i hh;rcases Bj hp with rfl|hp|⟨y,_,rfl,hn⟩
   ·exact hh.2
   ·exact h.nz p hp
   ·exact hn
  ·exact h.nz p hp
 ·unfold uz at hp;split at hp
  ·rename_i hh;rcases Bj hp with rfl|hp|⟨y,_,rfl,hn⟩
   ·exact hh.1
   ·exact h.fits p hp
   ·exact hh.1
  ·exact h.fits p hp
 ·have h1:=zI (l_ hs) hp;rw[Bl]at h1;rw[<-h1];exact hU _
theorem Eb (e:jQ):∀ l:List bS,∃ a b:List bS,l=a++b/\(∀ p ∈ a,jG p.1 e=true)/\(∀ p r,b=p::r->jG p.1 e=false)/\∀ c,oW l e c=a++oW b e c
 | []=>⟨[],[],rfl,fun _ h=>(by cases h),fun _ _ h=>(by cases h),fun _=>rfl⟩
 | q::l=>by
  cases hq:jG q.1 e with
  | true =>
   obtain⟨a,b,h1,h2,h3,h4⟩:=Eb e l;refine⟨q::a,b,by rw[h1];rfl,fun p hp => ?_,h3,fun c => ?_⟩
   ·rcases Qg1.1 hp with rfl|hp
    ·exact hq
    ·exact h2 p hp
   ·show(if jG q.1 e=true then q::oW l e c else _)=_;rw[if_pos hq,h4];rfl
  | false=>exact⟨[],q::l,rfl,fun _ h=>(by cases h),fun p r h=>by cases h;exact hq,fun _=>rfl⟩
theorem zJ (d e:jQ):(0<iE d e)↔jG e d=true:=by
 obtain⟨a,b,c⟩:=d;obtain⟨a',b',c'⟩:=e;unfold jG iE eO;simp only[decide_eq_true_eq]
 repeat' split
 all_goals first|omega|simp_all|(simp_all;omega)
theorem Bn (d e:jQ):iE d e=0↔d=e:=by
 constructor
 ·intro h;have h1:jG d e=false:=by unfold jG;simp;omega
  have h2:jG e d=false:=by
   cases h3:jG e d with
   | false=>rfl
   | true=>have:=(zJ d e).2 h3;omega
  exact jP h1 h2
 ·rintro rfl;have h1:=dW d;have h2:¬ 0<iE d d:=fun h=>by rw[zJ,h1]at h;cases h
  unfold jG at h1;simp at h1;omega
def VW:aF:=f84.body.r.r.r.l.bl.lp
def yG (es:List D)(i:Nat)(t5 t6 t7 t8 t9:FV)(L:List ai):St :=
 (st0 [.d (.s 6 es),.u,rL 0,.u,dI i,t5,t6,t7,t8,t9] L)
theorem Sy (es:List D)(i:Nat)(p:bS)(e:jQ)(c:Rat)(hi:es[i]?=some (qC p.1 p.2))(hn:es.length<=1000000)(hlt:jG p.1 e=true):Ex E1 VW (yG es i .u .u .u .u .u [sw (e,c)]) (.norm,yG es (i+1) .u .u .u .u .u [sw (e,c)]):=by
 have hil:i<es.length:=(aS hi)
 have aP:av .i64 ((i:Int)+1)=(i:Int)+1:=wrap_i64 ae;have hk1:((i+1:Nat):Int)=(i:Int)+1:=ae;have hk0:(0:Int)<=(i:Int):=ae;have hkc:(i:Int)<(es.length:Int):=ae;obtain⟨N,t⟩:=(Ca.jg (Ca.bO (jM 0 e p.1))).get;have hpos:0<iE e p.1:=(zJ _ _).2 hlt;refine Ex.of (n:=N+100) ?_;unfold yG;rw[hk1];generalize iE e p.1=r at*;obtain⟨⟨a,b,c'⟩,x⟩:=p;obtain⟨a2,b2,c2⟩:=e;simp only[sw,qC,Hw,lD,LD]at*;generalize qs x=s,LL (qn x)=ns,LL (qd x)=ds,qs c=s',LL (qn c)=ns',LL (qd c)=ds' at*;have i1:=idx hi;simp[VW,f84,aP,hk0,hkc,hil,hi,i1,t,hpos]
theorem XF (es:List D)(e:jQ)(c:Rat):Ex E1 VW (yG es es.length .u .u .u .u .u [sw (e,c)]) (.exit 0,yG es es.length .u .u (dB false) .u .u [sw (e,c)]):=by
 refine Ex.of (n:=100) ?_;unfold yG sw;simp[VW,f84]
theorem XG (es:List D)(i:Nat)(p:bS)(e:jQ)(c:Rat)(hi:es[i]?=some (qC p.1 p.2))(hlt:jG p.1 e=false):Ex E1 VW (yG es i .u .u .u .u .u [sw (e,c)]) (.exit 0,yG es i .u .u (dB false) .u .u [sw (e,c)]):=by
 have hil:i<es.length:=(aS hi)
 have hk0:(0:Int)<=(i:Int):=ae;have hkc:(i:Int)<(es.length:Int):=ae;obtain⟨N,t⟩:=(Ca.jg (Ca.bO (jM 0 e p.1))).get;have hpos:¬ 0<iE e p.1:=fun h=>by rw[zJ,hlt]at h;cases h
 refine Ex.of (n:=N+100) ?_;unfold yG;generalize iE e p.1=r at*;obtain⟨⟨a,b,c'⟩,x⟩:=p;obtain⟨a2,b2,c2⟩:=e;simp only[sw,qC,Hw,lD,LD]at*;generalize qs x=s,LL (qn x)=ns,LL (qd x)=ds,qs c=s',LL (qn c)=ns',LL (qd c)=ds' at*;have i1:=idx hi;simp[VW,f84,hk0,hkc,hil,hi,i1,t,hpos]
theorem XH (a b:List bS)(e:jQ)(c:Rat)(hn:(a++b).length<=1000000)(ha:∀ p ∈ a,jG p.1 e=true)(hb:∀ p r,b=p::r->jG p.1 e=false) :
  Ex E1 (.loop VW) (yG ((a++b).map fun p=>qC p.1 p.2) 0 .u .u .u .u .u [sw (e,c)]) (.exit 0,yG ((a++b).map fun p=>qC p.1 p.2) a.length .u .u (dB false) .u .u [sw (e,c)]):=by
 have hlen:((a++b).map fun p=>qC p.1 p.2).length=(a++b).length:=aC;obtain⟨r,h1,rfl⟩:=Ex.inv (E:=E1) (b:=VW) (S:=fun i:Nat=>yG ((a++b).map fun p=>qC p.1 p.2) i .u .u .u .u .u [sw (e,c)]) (fun i=>a.length-i) (fun i=>i<=a.length)
  (fun r=>r=(.exit 0,yG ((a++b).map fun p=>qC p.1 p.2) a.length .u .u (dB false) .u .u [sw (e,c)])) (by
   intro i hi
   by_cases h:i<a.length
   ·have hp:((a++b).map fun p=>qC p.1 p.2)[i]?=some (qC a[i].1 a[i].2):=by
     rw[Qc1,Qa0 h,Qa1 h];rfl
    exact .inl ⟨i+1,Sy _ i a[i] e c hp (by rw[hlen];exact hn) (ha _ (Qj1 h)),ae,ae⟩
   ·obtain rfl:i=a.length:=ae;cases b with
    | nil =>
     have:=XF (a.map fun p:bS=>qC p.1 p.2) e c;rw[Qk0]at this;simp only[Qx1];exact .inr ⟨_,this,aC,rfl⟩
    | cons p r =>
     have hp:((a++p::r).map fun p=>qC p.1 p.2)[a.length]?=some (qC p.1 p.2):=by
      rw[Qc1,Qb1 (Qd1 _),Q11];rfl
     exact .inr ⟨_,XG _ _ p e c hp (hb p r rfl),aC,rfl⟩) 0 (Qy1 _)
 exact h1
section
theorem Sz {E:Env}{F:bI}{n:Nat}{c:aF}{st:St}{r:FV × Option (List ai)}(h:(match EX E n c st with|some (.exit _,_)=>none|some (_,st')=>finish F st'|none=>none)=some r) :
  ∃ o st',Ex E c st (o,st')/\(∀ id,o≠.exit id)/\finish F st'=some r:=by
 cases he:EX E n c st with
 | none=>rw[he]at h;cases h
 | some x =>
  obtain⟨o,st'⟩:=x;rw[he]at h;cases o with
  | exit id=>cases h
  | norm=>exact⟨_,_,Ex.of he,fun id hid=>(by cases hid),h⟩
  | ret=>exact⟨_,_,Ex.of he,fun id hid=>(by cases hid),h⟩
theorem jo (az n:Nat)(es:List D)(h:n=es.length):ai.view az 6 0 n (.row az 6 es)=some es:=by
 subst h;simp[ai.view]
section put
variable (es:List D) (e:jQ) (c:Rat)
def puA:St:=(st0 (.d (.s 6 es)::.u::rL 0::nO) [sw (e,c)])
theorem aes:Ex E1 f84.body.l (st0 (.d (.s 6 es)::.d (qC e c)::zf) []) (.norm,puA es e c):=by
 apply e6;unfold puA sw qC Hw LD;simp[f84]
theorem abd (hc:qz c<=100000)(h:¬ (eZ e=true/\c≠0)):Ex E1 f84.body.r.l (puA es e c) (.ret,(st0 (.u::.u::.u::.d (.s 6 es)::qm) [sw (e,c)])):=by
 obtain⟨N,hN,t1,t2⟩:=((Ca.jg (Ca.bO (oJ 0 e))).j ((Ca.jg (l5 c ae)).any)).at 0;refine Ex.of (n:=N+100) ?_;have hz:eZ e=true->c.num.sign=0:=fun hf=>by
  have:c=0:=Classical.byContradiction fun h3=>h ⟨hf,h3⟩
  subst this;rfl
 generalize eZ e=f,c.num.sign=sg at*;unfold puA;simp only[sw,lD,qD,raw,LD]at*;generalize qs c=s',LL (qn c)=ns',LL (qd c)=ds' at*;cases f
 ·simp[f84,t1]
 ·have:=hz rfl;subst this;simp[f84,t1,t2]
theorem abe (hc:qz c<=100000)(hf:eZ e=true)(h0:c≠0):Ex E1 f84.body.r.l (puA es e c) (.norm,(st0 [.d (.s 6 es),.u,rL 0,.u,.u,.u,dB false,.u,.u,.u] [sw (e,c)])):=by
 obtain⟨N,hN,t1,t2⟩:=((Ca.jg (Ca.bO (oJ 0 e))).j ((Ca.jg (l5 c ae)).any)).at 0;have hz:c.num.sign≠0:=fun h=>h0 (Rat.num_eq_zero.1 (Q62.1 h))
 refine Ex.of (n:=N+100) ?_;rw[hf]at t1;generalize c.num.sign=sg at*;unfold puA;simp only[sw,lD,qD,raw,LD]at*;generalize qs c=s',LL (qn c)=ns',LL (qd c)=ds' at*;have hz':(sg==0)=false:=by simpa using hz
 simp[f84,t1,t2,hz']
theorem aet:Ex E1 f84.body.r.r.l (st0 [.d (.s 6 es),.u,rL 0,.u,.u,.u,dB false,.u,.u,.u] [sw (e,c)]) (.norm,yG es 0 .u .u .u .u .u [sw (e,c)]):=by
 apply e6;unfold yG sw;simp[f84]
end put
theorem tk (A:List D)(x:D):List.take (A.length+1) (A++[x])=A++[x]:=by rw[show A.length+1=(A++[x]).length by simp,Qj0]
theorem hv1 (az:Nat)(A:List D)(x:D):ai.view az 6 0 (A.length+1) (.row az 6 (A++[x]))=some (A++[x]):=jo _ _ _ aC
theorem hv2 (az:Nat)(A:List D)(x y:D)(B':List D):ai.view az 6 0 (A.length+1+(B'.length+1)) (.row az 6 (A++x::y::B'))=some (A++x::y::B'):=jo _ _ _ (by simp;omega)
theorem hv3 (az:Nat)(x y:D)(B':List D):ai.view az 6 0 (1+(B'.length+1)) (.row az 6 (x::y::B'))=some (x::y::B'):=jo _ _ _ (by simp;omega)
theorem hv4 (az:Nat)(A B':List D):ai.view az 6 0 (A.length+B'.length) (.row az 6 (A++B'))=some (A++B'):=jo _ _ _ aC
theorem hv5 (az:Nat)(A:List D)(x:D)(B':List D):ai.view az 6 0 (A.length+1+B'.length) (.row az 6 (A++x::B'))=some (A++x::B'):=jo _ _ _ (by simp;omega)
theorem hv6 (az:Nat)(x:D)(B':List D):ai.view az 6 0 (1+B'.length) (.row az 6 (x::B'))=some (x::B'):=jo _ _ _ (by simp;omega)
theorem hv8 (az:Nat)(x:D):ai.view az 6 0 1 (.row az 6 [x])=some [x]:=jo _ _ _ rfl
theorem hv9 (az:Nat)(B':List D):ai.view az 6 0 B'.length (.row az 6 B')=some B':=jo _ _ _ rfl
theorem SA (A:List D)(e:jQ)(c:Rat)(hn:(A++[]).length<=1000000) :
  ∃ n,(match EX E1 n f84.body.r.r.r.r (yG (A++[]) A.length .u .u (.d (.v (.bool false))) .u .u [sw (e,c)]) with|some (.exit _,_)=>none|some (_,st')=>finish f84 st'|none=>none)=some (.d (.s 6 (A++[qC e c])),none):=by
 rw[Qb0]at hn;have VX:(0:Int)<=(A.length:Int):=ae;have aP:av .i64 ((A.length:Int)+1)=(A.length:Int)+1:=wrap_i64 ae;have m1:A.length*80<=1099511627776:=ae;have m2:A.length<=1099511627776:=ae;have m3:(A.length+1)*80<=1099511627776:=ae;have m4:A.length+1<=1099511627776:=ae;refine⟨200,?_⟩;unfold yG;obtain⟨a2,b2,c2⟩:=e;simp only[sw,qC,Hw,LD]at*;generalize qs c=s1,LL (qn c)=ns1,LL (qd c)=ds1 at*
 by_cases hA:A=[]
 ·subst hA;simp[f84,jL,ER,most,hv8]
 ·have hA1:A.isEmpty=false:=by simpa using hA
  simp[f84,jL,ER,most,VX,tk,hv1,m1,m2,m3,m4,hA1]
theorem Ov (A B':List D)(e:jQ)(c:Rat)(p:bS)(hn:(A++qC p.1 p.2::B').length<=1000000)(hne:p.1≠e) :
  ∃ n,(match EX E1 n f84.body.r.r.r.r (yG (A++qC p.1 p.2::B') A.length .u .u (.d (.v (.bool false))) .u .u [sw (e,c)]) with|some (.exit _,_)=>none|some (_,st')=>finish f84 st'|none=>none)=some (.d (.s 6 (A++qC e c::qC p.1 p.2::B')),none):=by
 rw[Qb0]at hn;have VX:(0:Int)<=(A.length:Int):=ae;have aP:av .i64 ((A.length:Int)+1)=(A.length:Int)+1:=wrap_i64 ae;have m1:A.length*80<=1099511627776:=ae;have m2:A.length<=1099511627776:=ae;have m3:(A.length+1)*80<=1099511627776:=ae;have m4:A.length+1<=1099511627776:=ae;rw[Qf2]at hn;have m5:(A.length+1+(B'.length+1))*80<=1099511627776:=ae;have m6:A.length+1+(B'.length+1)<=1099511627776:=ae;have m7:(1+(B'.length+1))*80<=1099511627776:=ae;have m8:1+(B'.length+1)<=1099511627776:=ae;have k1:(A.length:Int)<(A.length:Int)+((B'.length:Int)+1):=ae;have k2:A.length<A.length+(B'.length+1):=ae;have k3:¬ (A.length:Int)=(A.length:Int)+((B'.length:Int)+1):=ae;have k3':((A.length:Int)==(A.length:Int)+((B'.length:Int)+1))=false:=by simpa using k3
 have k10:((A.length:Int)+((B'.length:Int)+1)).toNat=A.length+(B'.length+1):=ae;have k11:((B'.length:Int)+1).toNat=B'.length+1:=ae;have w1:av .i64 1=1:=wrap_i64 ae;have k12:A.length+(B'.length+1)-A.length=B'.length+1:=ae;have j1:(0:Int)<=(B'.length:Int)+1:=ae;have j2:(1:Int)<=(B'.length:Int)+1:=ae;have j3:(0:Int)<(B'.length:Int)+1:=ae;have k3n:¬ (0:Int)=(B'.length:Int)+1:=ae;have k3m:((0:Int)==(B'.length:Int)+1)=false:=by simpa using k3n
 have k4:(A.length:Int)<=(A.length:Int)+((B'.length:Int)+1):=ae;obtain⟨N,t⟩:=(Ca.jg (Ca.bO (jM 0 e p.1))).get;have h0:iE e p.1≠0:=fun h=>hne ((Bn _ _).1 h).symm
 have h0':(iE e p.1 != 0)=true:=by simpa using h0
 have hg:∀ x:D,(A++x::B')[A.length]?=some x:=fun x=>by simp
 refine⟨N+200,?_⟩;generalize iE e p.1=r at*;unfold yG;obtain⟨a2,b2,c2⟩:=e;obtain⟨⟨a,b,c'⟩,x⟩:=p;simp only[sw,qC,Hw,lD,LD]at*;generalize qs c=s1,LL (qn c)=ns1,LL (qd c)=ds1,qs x=s2,LL (qn x)=ns2,LL (qd x)=ds2 at*
 by_cases hA:A=[]
 ·subst hA;simp (maxSteps:=400000) [f84,jL,ER,most,hv3,t,h0',m7,m8,k3m,j1,k11]
 ·have hA1:A.isEmpty=false:=by simpa using hA
  simp[f84,jL,ER,most,VX,tk,hv2,m1,m2,m3,m4,hA1,t,h0',m5,m6,k2,k3',k10,k12,k4]
theorem SB (A B':List D)(e:jQ)(c:Rat)(p:bS)(hn:(A++qC p.1 p.2::B').length<=1000000)(he:p.1=e)(hc:qz c<=50000)(hp:qz p.2<=50000)(hs:c+p.2=0) :
  ∃ n,(match EX E1 n f84.body.r.r.r.r (yG (A++qC p.1 p.2::B') A.length .u .u (.d (.v (.bool false))) .u .u [sw (e,c)]) with|some (.exit _,_)=>none|some (_,st')=>finish f84 st'|none=>none)=some (.d (.s 6 (A++B')),none):=by
 rw[Qb0]at hn;have VX:(0:Int)<=(A.length:Int):=ae;have aP:av .i64 ((A.length:Int)+1)=(A.length:Int)+1:=wrap_i64 ae;have m1:A.length*80<=1099511627776:=ae;have m2:A.length<=1099511627776:=ae;have m3:(A.length+1)*80<=1099511627776:=ae;have m4:A.length+1<=1099511627776:=ae;rw[Qf2]at hn;have m5:(A.length+1+B'.length)*80<=1099511627776:=ae;have m6:A.length+1+B'.length<=1099511627776:=ae;have m7:(1+B'.length)*80<=1099511627776:=ae;have m8:1+B'.length<=1099511627776:=ae;have m9:(A.length+B'.length)*80<=1099511627776:=ae;have m10:A.length+B'.length<=1099511627776:=ae;have m11:B'.length*80<=1099511627776:=ae;have m12:B'.length<=1099511627776:=ae;have k1:(A.length:Int)<(A.length:Int)+((B'.length:Int)+1):=ae;have k2:A.length<A.length+(B'.length+1):=ae;have k3:¬ (A.length:Int)=(A.length:Int)+((B'.length:Int)+1):=ae;have k3':((A.length:Int)==(A.length:Int)+((B'.length:Int)+1))=false:=by simpa using k3
 have k10:((A.length:Int)+((B'.length:Int)+1)).toNat=A.length+(B'.length+1):=ae;have k11:((B'.length:Int)+1).toNat=B'.length+1:=ae;have w1:av .i64 1=1:=wrap_i64 ae;have k12:A.length+(B'.length+1)-A.length=B'.length+1:=ae;have j1:(0:Int)<=(B'.length:Int)+1:=ae;have j2:(1:Int)<=(B'.length:Int)+1:=ae;have j3:(0:Int)<(B'.length:Int)+1:=ae;have k3n:¬ (0:Int)=(B'.length:Int)+1:=ae;have k3m:((0:Int)==(B'.length:Int)+1)=false:=by simpa using k3n
 have k4:(A.length:Int)<=(A.length:Int)+((B'.length:Int)+1):=ae;have k5:(A.length:Int)+1<=(A.length:Int)+((B'.length:Int)+1):=ae;have k6:(0:Int)<=(A.length:Int)+1:=ae;have k7:((A.length:Int)+1).toNat=A.length+1:=ae;have k8:A.length+(B'.length+1)-(A.length+1)=B'.length:=ae;subst he;have hz:=xx c p.2;obtain⟨N,hN,t,t2,t3⟩:=((Ca.jg (Ca.bO (jM 0 p.1 p.1))).j ((Ca.jg (zC c p.2 ae ae)).j ((Ca.jg (l5 (c+p.2) ae)).any))).at 0;rw[(Bn p.1 p.1).2 rfl]at t;have hg:∀ x:D,(A++x::B')[A.length]?=some x:=fun x=>by simp
 have hd:∀ x:D,List.drop (A.length+1) (A++x::B')=B':=fun x=>by rw[<-Xp0];simp
 have hsg:(c+p.2).num.sign=0:=by rw[hs];rfl
 refine⟨N+200,?_⟩;generalize (c+p.2).num.sign=sg at*;generalize c+p.2=y at*;unfold yG;obtain⟨⟨a,b,c'⟩,x⟩:=p;simp only[sw,qC,Hw,lD,qD,raw,LD]at*;generalize qs c=s1,LL (qn c)=ns1,LL (qd c)=ds1,qs x=s2,LL (qn x)=ns2,LL (qd x)=ds2,qs y=s3,LL (qn y)=ns3,LL (qd y)=ds3 at*
 by_cases hA:A=[]
 ·subst hA
  by_cases hB:B'=[]
  ·subst hB;simp[f84,jL,ER,most,t,t2,t3,hsg,w1]
  ·have hB1:B'.isEmpty=false:=by simpa using hB
   simp (maxSteps:=400000) [f84,jL,ER,most,t,t2,t3,hsg,m11,m12,k3m,j1,j2,hv9,k11,w1,hB1]
 ·have hA1:A.isEmpty=false:=by simpa using hA
  simp[f84,jL,ER,most,VX,hv4,aP,m1,m2,t,t2,t3,hsg,m9,m10,k2,k3',k10,k4,k5,k6,k7,k8,hA1,hd]
theorem XI (A B':List D)(e:jQ)(c:Rat)(p:bS)(hn:(A++qC p.1 p.2::B').length<=1000000)(he:p.1=e)(hc:qz c<=50000)(hp:qz p.2<=50000)(hs:c+p.2≠0) :
  ∃ n,(match EX E1 n f84.body.r.r.r.r (yG (A++qC p.1 p.2::B') A.length .u .u (.d (.v (.bool false))) .u .u [sw (e,c)]) with|some (.exit _,_)=>none|some (_,st')=>finish f84 st'|none=>none)=some (.d (.s 6 (A++qC e (c+p.2)::B')),none):=by
 rw[Qb0]at hn;have VX:(0:Int)<=(A.length:Int):=ae;have aP:av .i64 ((A.length:Int)+1)=(A.length:Int)+1:=wrap_i64 ae;have m1:A.length*80<=1099511627776:=ae;have m2:A.length<=1099511627776:=ae;have m3:(A.length+1)*80<=1099511627776:=ae;have m4:A.length+1<=1099511627776:=ae;rw[Qf2]at hn;have m5:(A.length+1+B'.length)*80<=1099511627776:=ae;have m6:A.length+1+B'.length<=1099511627776:=ae;have m7:(1+B'.length)*80<=1099511627776:=ae;have m8:1+B'.length<=1099511627776:=ae;have m9:(A.length+B'.length)*80<=1099511627776:=ae;have m10:A.length+B'.length<=1099511627776:=ae;have m11:B'.length*80<=1099511627776:=ae;have m12:B'.length<=1099511627776:=ae;have k1:(A.length:Int)<(A.length:Int)+((B'.length:Int)+1):=ae;have k2:A.length<A.length+(B'.length+1):=ae;have k3:¬ (A.length:Int)=(A.length:Int)+((B'.length:Int)+1):=ae;have k3':((A.length:Int)==(A.length:Int)+((B'.length:Int)+1))=false:=by simpa using k3
 have k10:((A.length:Int)+((B'.length:Int)+1)).toNat=A.length+(B'.length+1):=ae;have k11:((B'.length:Int)+1).toNat=B'.length+1:=ae;have w1:av .i64 1=1:=wrap_i64 ae;have k12:A.length+(B'.length+1)-A.length=B'.length+1:=ae;have j1:(0:Int)<=(B'.length:Int)+1:=ae;have j2:(1:Int)<=(B'.length:Int)+1:=ae;have j3:(0:Int)<(B'.length:Int)+1:=ae;have k3n:¬ (0:Int)=(B'.length:Int)+1:=ae;have k3m:((0:Int)==(B'.length:Int)+1)=false:=by simpa using k3n
 have k4:(A.length:Int)<=(A.length:Int)+((B'.length:Int)+1):=ae;have k5:(A.length:Int)+1<=(A.length:Int)+((B'.length:Int)+1):=ae;have k6:(0:Int)<=(A.length:Int)+1:=ae;have k7:((A.length:Int)+1).toNat=A.length+1:=ae;have k8:A.length+(B'.length+1)-(A.length+1)=B'.length:=ae;subst he;have hz:=xx c p.2;obtain⟨N,hN,t,t2,t3⟩:=((Ca.jg (Ca.bO (jM 0 p.1 p.1))).j ((Ca.jg (zC c p.2 ae ae)).j ((Ca.jg (l5 (c+p.2) ae)).any))).at 0;rw[(Bn p.1 p.1).2 rfl]at t;have hg:∀ x:D,(A++x::B')[A.length]?=some x:=fun x=>by simp
 have hd:∀ x:D,List.drop (A.length+1) (A++x::B')=B':=fun x=>by rw[<-Xp0];simp
 have hsg:(c+p.2).num.sign≠0:=fun h=>hs (Rat.num_eq_zero.1 (Q62.1 h))
 have aex:((c+p.2).num.sign != 0)=true:=by simpa using hsg
 refine⟨N+200,?_⟩;generalize (c+p.2).num.sign=sg at*;generalize c+p.2=y at*;unfold yG;obtain⟨⟨a,b,c'⟩,x⟩:=p;simp only[sw,qC,Hw,lD,qD,raw,LD]at*;generalize qs c=s1,LL (qn c)=ns1,LL (qd c)=ds1,qs x=s2,LL (qn x)=ns2,LL (qd x)=ds2,qs y=s3,LL (qn y)=ns3,LL (qd y)=ds3 at*
 by_cases hA:A=[]
 ·subst hA;simp (maxSteps:=400000) [f84,jL,ER,most,hv6,t,t2,t3,aex,m7,m8,k3m,j1,j2,k11,w1]
 ·have hA1:A.isEmpty=false:=by simpa using hA
  simp[f84,jL,ER,most,VX,tk,hv5,aP,m1,m2,m3,m4,t,t2,t3,aex,m5,m6,k2,k3',k10,k4,k5,k6,k7,k8,hA1,hd]
end
theorem XJ {l a b:List bS}{e:jQ}{c:Rat}(hn:l.length<=1000000)(hl:l=a++b)(ha:∀ p ∈ a,jG p.1 e=true)(hb:∀ p r,b=p::r->jG p.1 e=false)(hc:qz c<=50000)(hp:Bd 50000 l)(hins:oW l e c=a++oW b e c) :
  ∃ n,(match EX E1 n f84.body.r.r.r.r (yG (l.map fun p=>qC p.1 p.2) a.length .u .u (.d (.v (.bool false))) .u .u [sw (e,c)]) with|some (.exit _,_)=>none|some (_,st')=>finish f84 st'|none=>none)=some (.d (.s 6 ((oW l e c).map fun p=>qC p.1 p.2)),none):=by
 subst hl;rw[hins];rw[Qr0,Qr0];have hla:(a.map fun p=>qC p.1 p.2).length=a.length:=aC;cases b with
 | nil =>
  have h:=SA (a.map fun p=>qC p.1 p.2) e c (by simpa using hn);rw[hla]at h;exact h
 | cons q r =>
  have hq:=hb q r rfl;have hn':((a.map fun p=>qC p.1 p.2)++qC q.1 q.2::(r.map fun p=>qC p.1 p.2)).length<=1000000:=by simpa using hn
  have hqb:qz q.2<=50000:=hp q aC;have hi:oW (q::r) e c=if q.1=e then(if c+q.2=0 then r else(e,c+q.2)::r) else(e,c)::q::r:=by
   show(if jG q.1 e=true then q::oW r e c else _)=_;rw[if_neg (by simp[hq])]
  rw[hi]
  by_cases he:q.1=e
  ·rw[if_pos he]
   by_cases h0:c+q.2=0
   ·rw[if_pos h0];have h:=SB (a.map fun p=>qC p.1 p.2) (r.map fun p=>qC p.1 p.2) e c q hn' he hc hqb h0;rw[hla]at h;exact h
   ·rw[if_neg h0];have h:=XI (a.map fun p=>qC p.1 p.2) (r.map fun p=>qC p.1 p.2) e c q hn' he hc hqb h0;rw[hla]at h;exact h
  ·rw[if_neg he];have h:=Ov (a.map fun p=>qC p.1 p.2) (r.map fun p=>qC p.1 p.2) e c q hn' he;rw[hla]at h;exact h
theorem abf (l:List bS)(e:jQ)(c:Rat)(hn:l.length<=1000000)(hb:Bd 50000 l)(hc:qz c<=50000):Ca E1 84 [.d (bQ l),.d (qC e c)] (.d (bQ (uz l e c)),none):=by
 have hA:=aes (l.map fun p=>qC p.1 p.2) e c
 by_cases h:eZ e=true/\c≠0
 ·obtain⟨a,b,h1,h2,h3,h4⟩:=Eb e l;obtain⟨n,hn'⟩:=XJ hn h1 h2 h3 hc hb (h4 c);obtain⟨o,st',hE,ho,hf⟩:=Sz hn';have hput:uz l e c=oW l e c:=if_pos h;rw[hput];have hB:=abe (l.map fun p=>qC p.1 p.2) e c ae h.1 h.2;have hC:=aet (l.map fun p=>qC p.1 p.2) e c;have hL:Ex E1 (.loop VW) (yG (l.map fun p=>qC p.1 p.2) 0 .u .u .u .u .u [sw (e,c)]) (.exit 0,yG (l.map fun p=>qC p.1 p.2) a.length .u .u (dB false) .u .u [sw (e,c)]):=by
   have:=XH a b e c (by rw[<-h1];exact hn) h2 h3;rw[<-h1]at this;exact this
  refine Ca.body (o:=o) (st1:=st') rfl (k84:E1.fn _=_) rfl ?_ ho hf;show Ex E1 (.seq f84.body.l (.seq f84.body.r.l (.seq f84.body.r.r.l (.seq (.block 0 (.loop VW)) f84.body.r.r.r.r)))) _ _;exact hA.seq (hB.seq (hC.seq (hL.block.seq hE)))
 ·have hput:uz l e c=l:=if_neg h;rw[hput];have hB:=abd (l.map fun p=>qC p.1 p.2) e c ae h;refine Ca.body (o:=.ret) rfl (k84:E1.fn _=_) rfl ?_ (by intro id h;cases h) (st1:=(st0 [.u,.u,.u,.d (.s 6 (l.map fun p=>qC p.1 p.2)),.u,.u,.u,.u,.u,.u] [sw (e,c)])) ?_
  ·show Ex E1 (.seq f84.body.l (.seq f84.body.r.l f84.body.r.r)) _ _;exact hA.seq hB.bN
  ·unfold bQ;generalize (l.map fun p=>qC p.1 p.2)=es at*;simp[f84]
def tkL:aF:=f86.body.r.r.r.l.r.bl.lp
def Ow (es:List D)(i:Nat)(out t:FV)(L:List ai):St:=(st0 [.d (.s 6 es),.u,out,dI i,.u,t] L)
theorem SC (es:List D)(i:Nat)(p:bS)(out:FV)(L:List ai)(xs:List D)(hi:es[i]?=some (qC p.1 p.2))(hn:es.length<=1000000)(hq:qz p.2<=100000)(ho:nU out L xs)(hx:xs.length<=1000000) :
  ∃ out' L',Ex E1 tkL (Ow es i out .u L) (.norm,Ow es (i+1) out' .u L')/\nU out' L' (xs++[qC p.1 p.2]):=by
 have hil:i<es.length:=(aS hi)
 have aP:av .i64 ((i:Int)+1)=(i:Int)+1:=wrap_i64 ae;have hk1:((i+1:Nat):Int)=(i:Int)+1:=ae;have hk0:(0:Int)<=(i:Int):=ae;have hkc:(i:Int)<(es.length:Int):=ae;obtain⟨N,t⟩:=(Ca.jg (kD p.2 ae)).get;obtain⟨⟨a,b,c⟩,x⟩:=p;simp only[qC,Hw,qD,raw,LD]at*;generalize qs x=s,LL (qn x)=ns,LL (qd x)=ds at*;have i1:=idx hi;rcases ho with ⟨rfl,rfl⟩|⟨j,az,rfl,hrow⟩
 ·refine⟨.ls (.loc L.length) 0 6 0 1,L++[.row 0 6 [.a [vI a,vI b,vI c,vB s,.s 1 ns,.s 1 ds]]],Ex.of (n:=N+100) ?_,.inr ⟨L.length,0,aC,aC⟩⟩;unfold Ow;rw[hk1];simp[tkL,f86,aP,hk0,hkc,hil,hi,i1,t,most]
 ·have hm1:(xs.length+1)*80<=1099511627776:=ae;have hm2:xs.length+1<=1099511627776:=ae;have hjl:j<L.length:=(aS hrow)
  have i2:=idx hrow;refine⟨.ls (.loc j) (az+1) 6 0 (xs.length+1),L.set j (.row (az+1) 6 (xs++[.a [vI a,vI b,vI c,vB s,.s 1 ns,.s 1 ds]])),Ex.of (n:=N+100) ?_,.inr ⟨j,az+1,aC,by simp[hjl]⟩⟩;unfold Ow;rw[hk1];simp[tkL,f86,aP,hk0,hkc,hil,hi,i1,t,most,hrow,i2,hm1,hm2]
theorem XK (l:List bS)(hn:l.length<=1000000)(hb:Bd 100000 l) :
  ∃ out L,Ex E1 (.loop tkL) (Ow (l.map fun p=>qC p.1 p.2) 0 (.d (.n 6)) .u []) (.exit 0,Ow (l.map fun p=>qC p.1 p.2) l.length out (dB false) L)/\nU out L (l.map fun p=>qC p.1 p.2):=by
 have hlen:(l.map fun p=>qC p.1 p.2).length=l.length:=aC;obtain⟨r,h1,out,L,rfl,h3⟩:=Ex.inv (E:=E1) (b:=tkL) (α:=Nat × FV × List ai) (S:=fun a=>Ow (l.map fun p=>qC p.1 p.2) a.1 a.2.1 .u a.2.2) (fun a=>l.length-a.1)
  (fun a=>a.1<=l.length/\nU a.2.1 a.2.2 ((l.take a.1).map fun p=>qC p.1 p.2)) (fun r=>∃ out L,r=(.exit 0,Ow (l.map fun p=>qC p.1 p.2) l.length out (dB false) L)/\nU out L (l.map fun p=>qC p.1 p.2)) (by
   rintro⟨i,out,L⟩ ⟨q1,q2⟩;simp only at q1 q2
   by_cases hi:i<l.length
   ·have hp:l[i]?=some l[i]:=Qa1 hi;have hp2:(l.map fun p=>qC p.1 p.2)[i]?=some (qC l[i].1 l[i].2):=by rw[Qc1,hp];rfl
    obtain⟨out',L',g1,g2⟩:=SC _ i l[i] out L _ hp2 (by rw[hlen];exact hn) (hb _ (Qj1 hi)) q2 (by rw[Qk0,Ql2];omega);refine .inl ⟨(i+1,out',L'),g1,by show l.length-(i+1)<l.length-i;omega,by show i+1<=_;omega,?_⟩;show nU out' L' ((l.take (i+1)).map fun p=>qC p.1 p.2);rw[Xi1,hp];have e:((l.take i++[l[i]]).map fun p:bS=>qC p.1 p.2)=((l.take i).map fun p=>qC p.1 p.2)++[qC l[i].1 l[i].2]:=by rw[Qr0];rfl
    show nU out' L' ((l.take i++[l[i]]).map fun p:bS=>qC p.1 p.2);rw[e];exact g2
   ·obtain rfl:i=l.length:=ae;rw[Qj0]at q2;refine .inr ⟨_,Ex.of (n:=60) ?_,?_,out,L,rfl,q2⟩
    ·simp only[Ow];rw[<-hlen];generalize (l.map fun p=>qC p.1 p.2)=es at*;simp[tkL,f86]
    ·simp) (0,.d (.n 6),[]) ⟨Qy1 _,.inl ⟨rfl,rfl⟩⟩
 exact⟨out,L,h1,h3⟩
theorem vM {S:Nat}{l:List bS}(h:PV S l)(hS:S<=1000):∃ o,Ca E1 86 [.d (bQ l)] (.d (bQ l),o)/\o=none:=by
 have hq:=DV _ (Sq h hS);rw[zH h (fun m hm=>by cases hm),<-Fv]at hq;obtain⟨N,t⟩:=(Ca.jg hq).get;have hlen:=h.length;obtain⟨out,L,hl,ho⟩:=XK l ae (h.bd.mono ae);have hA:Ex E1 f86.body.l (st0 (.d (bQ l)::iO) []) (.norm,(st0 (.d (bQ l)::iO) [])):=by
  apply e6;generalize bQ l=x;simp[f86]
 have hB := nx hA f86.body.r.l (st0 [.d (bQ l),.u,.u,.u,dB false,.u] []) (by
  refine Ex.of (n:=N+60) ?_;unfold bQ at*;generalize (l.map fun p=>qC p.1 p.2)=es at*;simp[f86,t])
 have hC := nx hB f86.body.r.r.l (st0 (.d (bQ l)::.u::.d (.n 6)::DI) []) (by
  apply e6;generalize bQ l=x;simp[f86])
 have hD := nx hC f86.body.r.r.r.l.l (Ow (l.map fun p=>qC p.1 p.2) 0 (.d (.n 6)) .u []) (by
  apply e6;unfold Ow bQ;generalize (l.map fun p=>qC p.1 p.2)=es at*;simp[f86])
 refine⟨none,?_,rfl⟩;have hE:∃ n,(match EX E1 n f86.body.r.r.r.r (Ow (l.map fun p=>qC p.1 p.2) l.length out (.d (.v (.bool false))) L) with|some (.exit _,_)=>none|some (_,st')=>finish f86 st'|none=>none)=some (.d (bQ l),none):=by
  refine⟨60,?_⟩;unfold Ow bQ;generalize (l.map fun p=>qC p.1 p.2)=es at*;rcases ho with ⟨rfl,rfl⟩|⟨j,az,rfl,hrow⟩
  ·simp[f86]
  ·have hv:=jo az es.length es rfl;have i2:=idx hrow;simp[f86,hrow,i2,hv]
 obtain⟨n,hE⟩:=hE;obtain⟨o,st',hE,ho',hf⟩:=Sz hE;refine Ca.body (o:=o) (st1:=st') rfl (aN 86 f86:E1.fn _=_) rfl ?_ ho' hf;show Ex E1 (.seq f86.body.l (.seq f86.body.r.l (.seq f86.body.r.r.l (.seq (.seq f86.body.r.r.r.l.l (.block 0 (.loop tkL))) f86.body.r.r.r.r)))) _ _;exact hA.seq (hB.seq (hC.seq ((hD.seq hl.block).seq hE)))
def mZ (l ms:List bS):List bS:=ms.foldl (fun s p=>uz s p.1 p.2) l
theorem uA (l ms:List bS)(p:bS):mZ l (ms++[p])=uz (mZ l ms) p.1 p.2:=by simp[mZ,Xv1]
theorem Ec (l:List bS)(e:jQ):∀ ms:List bS,tot (mZ l ms) e=tot l e+tot (ms.filter fun p=>eZ p.1) e:=by
 intro ms
 induction ms generalizing l with
 | nil=>simp only[mZ,List.foldl_nil,List.filter_nil,tot];grind
 | cons p r ih =>
  show tot (mZ (uz l p.1 p.2) r) e=_;rw[ih,Bl]
  by_cases h:eZ p.1=true
  ·rw[Xe2 (p:=fun p:bS=>eZ p.1) h];obtain⟨a,y⟩:=p;simp only at h;simp only[tot,h,true_and];grind
  ·rw[Xe1 (p:=fun p:bS=>eZ p.1) h];simp only[h,false_and,if_false];grind
theorem SE {S T U:Nat}{l:List bS}(h:PV S l)(hS:1<=S)(hSU:S<=U):∀ {ms:List bS},Bd T ms->(∀ k e,qz (tot l e+tot ((ms.take k).filter fun p=>eZ p.1) e)<=U)->PV U (mZ l ms):=by
 intro ms hT hU;have main:∀ k,k<=ms.length->PV U (mZ l (ms.take k)):=by
  intro k
  induction k with
  | zero=>intro _;simpa[mZ] using h.mono hSU
  | succ k ih =>
   intro hk;have hp:ms[k]?=some ms[k]:=Qa1 ae;have e1:ms.take (k+1)=ms.take k++[ms[k]]:=by rw[Xi1,hp];rfl
   have h1:=ih ae;rw[e1,uA];refine XE h1 ae (hT _ (Qj1 ae)) (fun e' => ?_);have h2:=hU (k+1) e';have h3:=Ec l e' (ms.take (k+1));rw[e1,uA,Bl]at h3;rw[h3,<-e1];exact h2
 have:=main ms.length (Qd1 _)
 rwa [Qj0]at this
theorem yH {ms:List bS}(h:Fits ms):(ms.filter fun p=>eZ p.1)=ms:=X31.2 (fun p hp=>h p hp)
theorem KF {S T:Nat}(hS:1<=S)(hT:1<=T){a b:List bS}(ha:PV S a)(hb:PV T b)(k:Nat)(e:jQ):qz (tot a e+tot ((b.take k).filter fun p=>eZ p.1) e)<=S+T+1:=by
 have hf:Fits (b.take k):=fun p hp=>hb.fits p (Qs2 hp)
 rw[yH hf];have h1:=Fw hS (l_ ha.Qn) ha.bd e;have hk:Keys (b.take k):=X51 ((List.take_sublist k b).map _) (l_ hb.Qn);have h2:=Fw hT hk (fun p hp=>hb.bd p (Qs2 hp)) e;have:=xx (tot a e) (tot (b.take k) e);omega
theorem fold_add {S T:Nat}(hS:1<=S)(hT:1<=T){a b:List bS}(ha:PV S a)(hb:PV T b)(k:Nat):PV (S+T+1) (mZ a (b.take k)):=by
 refine SE (T:=T) ha hS ae (fun p hp=>hb.bd p (Qs2 hp)) (fun j e => ?_);rw[List.take_take];exact KF hS hT ha hb _ e
theorem Ib {S T:Nat}(hS:1<=S)(hT:1<=T){a b:List bS}(ha:PV S a)(hb:PV T b):mZ a b=jR a b:=by
 have h1:=fold_add hS hT ha hb b.length;rw[Qj0]at h1;refine PV.ext h1 (Bi hS hT ha hb) (fun e => ?_);rw[Ec,H_,yH hb.fits]
def adL:aF:=f49.body.r.r.l.r.bl.lp
def Qo (b:List D)(acc:D)(i:Nat)(t:FV):St:=(st0 [.u,.d (.s 6 b),.u,.d acc,dI i,t] [])
theorem SF (es:List D)(l:List bS)(i:Nat)(p:bS)(hi:es[i]?=some (qC p.1 p.2))(hn:es.length<=1000000)(hl:l.length<=1000000)(hb:Bd 50000 l)(hp:qz p.2<=50000):Ex E1 adL (Qo es (bQ l) i .u) (.norm,Qo es (bQ (uz l p.1 p.2)) (i+1) .u):=by
 have hil:i<es.length:=(aS hi)
 have aP:av .i64 ((i:Int)+1)=(i:Int)+1:=wrap_i64 ae;have hk1:((i+1:Nat):Int)=(i:Int)+1:=ae;have hk0:(0:Int)<=(i:Int):=ae;have hkc:(i:Int)<(es.length:Int):=ae;obtain⟨N,t⟩:=(abf l p.1 p.2 hl hb hp).get;refine Ex.of (n:=N+100) ?_;unfold Qo bQ at*;rw[hk1];generalize ((uz l p.1 p.2).map fun p=>qC p.1 p.2)=y,(l.map fun p=>qC p.1 p.2)=z at*;simp only[qC,Hw,LD]at*;generalize LL (qn p.2)=ns,LL (qd p.2)=ds at*;have i1:=idx hi;simp[adL,f49,aP,hk0,hkc,hil,hi,i1,t]
theorem XL {S:Nat}(hS:1<=S)(hS2:S<=20000){a b:List bS}(ha:PV S a)(hb:PV S b) :
  Ex E1 (.loop adL) (Qo (b.map fun p=>qC p.1 p.2) (bQ a) 0 .u) (.exit 0,Qo (b.map fun p=>qC p.1 p.2) (bQ (jR a b)) b.length (dB false)):=by
 have hlen:(b.map fun p=>qC p.1 p.2).length=b.length:=aC;have lb:=hb.length;obtain⟨r,h1,rfl⟩:=Ex.inv (E:=E1) (b:=adL) (S:=fun i:Nat=>Qo (b.map fun p=>qC p.1 p.2) (bQ (mZ a (b.take i))) i .u) (fun i=>b.length-i) (fun i=>i<=b.length)
  (fun r=>r=(.exit 0,Qo (b.map fun p=>qC p.1 p.2) (bQ (jR a b)) b.length (dB false))) (by
   intro i hi
   by_cases h:i<b.length
   ·have hp:b[i]?=some b[i]:=Qa1 h;have hp2:(b.map fun p=>qC p.1 p.2)[i]?=some (qC b[i].1 b[i].2):=by rw[Qc1,hp];rfl
    have hpv:=fold_add hS hS ha hb i;have:=SF _ (mZ a (b.take i)) i b[i] hp2 ae (by have:=hpv.length;omega) (hpv.bd.mono ae) (by have:=hb.bd _ (Qj1 h);omega);refine .inl ⟨i+1,?_,ae,ae⟩;have e1:b.take (i+1)=b.take i++[b[i]]:=by rw[Xi1,hp];rfl
    rw[e1,uA];exact this
   ·obtain rfl:i=b.length:=ae;refine .inr ⟨_,Ex.of (n:=60) ?_,?_,rfl⟩
    ·rw[Qj0,Ib hS hS ha hb];unfold Qo;rw[<-hlen];generalize (b.map fun p=>qC p.1 p.2)=es,bQ (jR a b)=x at*;simp[adL,f49]
    ·simp) 0 (Qy1 _)
 simpa[mZ] using h1
theorem SG {S:Nat}(hS:1<=S)(hS2:S<=1000){a b:List bS}(ha:PV S a)(hb:PV S b):Ca E1 49 [.d (bQ a),.d (bQ b)] (.d (bQ (jR a b)),none):=by
 obtain⟨_,h1,rfl⟩:=vM ha hS2;obtain⟨_,h2,rfl⟩:=vM hb hS2;obtain⟨N,hN,t1,t2⟩:=(h1.j h2.any).at 0;have hl:=XL hS ae ha hb;have hA:Ex E1 f49.body.l (st0 (.d (bQ a)::.d (bQ b)::mO) []) (.norm,(st0 (.d (bQ a)::.d (bQ b)::mO) [])):=by
  apply e6;generalize bQ a=x;generalize bQ b=y;simp[f49]
 have hB := nx hA f49.body.r.l (st0 [.u,.d (bQ b),.u,.d (bQ a),.u,.u] []) (by
  refine Ex.of (n:=N+60) ?_;unfold bQ at*;generalize (a.map fun p=>qC p.1 p.2)=x,(b.map fun p=>qC p.1 p.2)=y at*;simp[f49,t1,t2])
 have hC := nx hB f49.body.r.r.l.l (Qo (b.map fun p=>qC p.1 p.2) (bQ a) 0 .u) (by
  apply e6;unfold Qo bQ;simp[f49])
 have hD:Ex E1 f49.body.r.r.r (Qo (b.map fun p=>qC p.1 p.2) (bQ (jR a b)) b.length (dB false)) (.ret,(st0 (.u::.u::.d (bQ (jR a b))::DI) [])):=by
  apply e6;unfold Qo bQ;generalize ((jR a b).map fun p=>qC p.1 p.2)=x,(b.map fun p=>qC p.1 p.2)=y at*;simp[f49]
 refine Ca.body (o:=.ret) rfl (aN 49 f49:E1.fn _=_) rfl ?_ (by intro id h;cases h) (st1:=(st0 (.u::.u::.d (bQ (jR a b))::DI) [])) ?_
 ·show Ex E1 (.seq f49.body.l (.seq f49.body.r.l (.seq (.seq f49.body.r.r.l.l (.block 0 (.loop adL))) f49.body.r.r.r))) _ _;exact hA.seq (hB.seq ((hC.seq hl.block).seq hD))
 ·unfold bQ;generalize ((jR a b).map fun p=>qC p.1 p.2)=x at*;simp[f49]
end Fi.S
