import Derived.Test.YtkekcmgkpdkieaaGreatDoorCN
set_option linter.unusedVariables false
set_option linter.unusedSimpArgs false
noncomputable section
namespace Fi.S
open Go Fi
set_option maxHeartbeats 8000000
def om:List aZ->fM->Rat->List aZ
 | [],e,c=>[(e,c)]
 | p::r,e,c=>if kV p.1 e=true then p::om r e c else if p.1=e then(if c+p.2=0 then r else(e,c+p.2)::r) else(e,c)::p::r
def lZ (l:List aZ)(e:fM)(c:Rat):List aZ:=if bR e=true/\c≠0 then om l e c else l
theorem Ch {l:List aZ}{e:fM}{c:Rat}{p:aZ}(h:p ∈ om l e c):p=(e,c)\/p ∈ l\/∃ y,(e,y) ∈ l/\p=(e,c+y)/\c+y≠0:=by
 induction l with
 | nil=>exact .inl (by simpa[om] using h)
 | cons q r ih =>
  unfold om at h;split at h
  ·rcases Qi1.1 h with rfl|h
   ·exact .inr (.inl (Qj1 ..))
   ·rcases ih h with h|h|⟨y,h1,h2⟩
    ·exact .inl h
    ·exact .inr (.inl (Qh0 _ h))
    ·exact .inr (.inr ⟨y,Qh0 _ h1,h2⟩)
  ·split at h
   ·rename_i he;split at h
    ·exact .inr (.inl (Qh0 _ h))
    ·rename_i hn;rcases Qi1.1 h with rfl|h
     ·obtain⟨a,y⟩:=q;simp only at he;subst he;exact .inr (.inr ⟨y,Qj1 ..,rfl,hn⟩)
     ·exact .inr (.inl (Qh0 _ h))
   ·rcases Qi1.1 h with rfl|h
    ·exact .inl rfl
    ·exact .inr (.inl h)
theorem Uz {l:List aZ}{e:fM}{c:Rat}(e':fM):tot (om l e c) e'=tot l e'+if e=e' then c else 0:=by
 induction l with
 | nil=>simp only[om,tot];grind
 | cons q r ih =>
  obtain⟨a,y⟩:=q;unfold om;split
  ·simp only[tot,ih];grind
  ·split
   ·rename_i he;simp only at he;subst he;split
    ·rename_i h0;simp only[tot]
     by_cases h:a=e'
     ·subst h;simp only[if_true];grind
     ·simp only[if_neg h];grind
    ·simp only[tot]
     by_cases h:a=e'
     ·subst h;simp only[if_true];grind
     ·simp only[if_neg h];grind
   ·simp only[tot];grind
theorem UA {l:List aZ}{e:fM}{c:Rat}(h:Srt l):Srt (om l e c):=by
 induction l with
 | nil=>exact Qk1.2 ⟨fun _ h=>(by cases h),List.Pairwise.nil⟩
 | cons q r ih =>
  have h':=Qk1.1 h;unfold om;split
  ·rename_i hlt;refine Qk1.2 ⟨fun p hp => ?_,ih h'.2⟩;rcases Ch hp with rfl|hp|⟨y,_,rfl,_⟩
   ·exact hlt
   ·exact h'.1 p hp
   ·exact hlt
  ·rename_i hlt;split
   ·rename_i he;split
    ·exact h'.2
    ·refine Qk1.2 ⟨fun p hp => ?_,h'.2⟩;have:=h'.1 p hp;rw[he]at this;exact this
   ·rename_i hne;have hq:kV e q.1=true:=by
     cases h1:kV e q.1 with
     | true=>rfl
     | false=>exact absurd (j_ (by simpa using hlt) h1) hne
    refine Qk1.2 ⟨fun p hp => ?_,h⟩;rcases Qi1.1 hp with rfl|hp
    ·exact hq
    ·exact n_ hq (h'.1 p hp)
theorem Ci (l:List aZ)(e:fM)(c:Rat)(e':fM):tot (lZ l e c) e'=tot l e'+if bR e=true/\e=e' then c else 0:=by
 unfold lZ;split
 ·rename_i h;rw[Uz]
  by_cases h2:e=e'
  ·rw[if_pos h2,if_pos ⟨h.1,h2⟩]
  ·rw[if_neg h2,if_neg (fun h3=>h2 h3.2)]
 ·rename_i h;split
  ·rename_i h2;have:c=0:=Classical.byContradiction fun h3=>h ⟨h2.1,h3⟩
   subst this;grind
  ·grind
theorem YN {S T U:Nat}{l:List aZ}{e:fM}{c:Rat}(h:PV S l)(hS:1<=S)(hT:qz c<=T)(hU:∀ e',qz (tot l e'+if bR e=true/\e=e' then c else 0)<=U):PV U (lZ l e c):=by
 have hs:Srt (lZ l e c):=by
  unfold lZ;split
  ·exact UA h.Mg
  ·exact h.Mg
 refine⟨hs,fun p hp => ?_,fun p hp => ?_,fun p hp => ?_⟩
 ·unfold lZ at hp;split at hp
  ·rename_i hh;rcases Ch hp with rfl|hp|⟨y,_,rfl,hn⟩
   ·exact hh.2
   ·exact h.nz p hp
   ·exact hn
  ·exact h.nz p hp
 ·unfold lZ at hp;split at hp
  ·rename_i hh;rcases Ch hp with rfl|hp|⟨y,_,rfl,hn⟩
   ·exact hh.1
   ·exact h.fits p hp
   ·exact hh.1
  ·exact h.fits p hp
 ·have h1:=ug (jd hs) hp;rw[Ci]at h1;rw[<-h1];exact hU _
theorem E_ (e:fM):∀ l:List aZ,∃ a b:List aZ,l=a++b/\(∀ p ∈ a,kV p.1 e=true)/\(∀ p r,b=p::r->kV p.1 e=false)/\∀ c,om l e c=a++om b e c
 | []=>⟨[],[],rfl,fun _ h=>(by cases h),fun _ _ h=>(by cases h),fun _=>rfl⟩
 | q::l=>by
  cases hq:kV q.1 e with
  | true =>
   obtain⟨a,b,h1,h2,h3,h4⟩:=E_ e l;refine⟨q::a,b,by rw[h1];rfl,fun p hp => ?_,h3,fun c => ?_⟩
   ·rcases Qi1.1 hp with rfl|hp
    ·exact hq
    ·exact h2 p hp
   ·show(if kV q.1 e=true then q::om l e c else _)=_;rw[if_pos hq,h4];rfl
  | false=>exact⟨[],q::l,rfl,fun _ h=>(by cases h),fun p r h=>by cases h;exact hq,fun _=>rfl⟩
end Fi.S
namespace Fi.S
open Go Fi
set_option maxHeartbeats 8000000
theorem AU (d e:fM):(0<jb d e)↔kV e d=true:=by
 obtain⟨a,b,c⟩:=d;obtain⟨a',b',c'⟩:=e;unfold kV jb iB;simp only[decide_eq_true_eq]
 repeat' split
 all_goals first|omega|simp_all|(simp_all;omega)
theorem Cj (d e:fM):jb d e=0↔d=e:=by
 constructor
 ·intro h;have h1:kV d e=false:=by unfold kV;simp;omega
  have h2:kV e d=false:=by
   cases h3:kV e d with
   | false=>rfl
   | true=>have:=(AU d e).2 h3;omega
  exact j_ h1 h2
 ·rintro rfl;have h1:=eu d;have h2:¬ 0<jb d d:=fun h=>by rw[AU,h1]at h;cases h
  unfold kV at h1;simp at h1;omega
def Xw:aG:=f84.body.r.r.r.l.bl.lp
def zI (es:List D)(i:Nat)(t5 t6 t7 t8 t9:FV)(L:List ae):St :=
 (st0 [.d (.s 6 es),.u,.r (.loc 0) 0,.u,.d (.v (.int .i64 i)),t5,t6,t7,t8,t9] L)
theorem UB (es:List D)(i:Nat)(p:aZ)(e:fM)(c:Rat)(hi:es[i]?=some (qC p.1 p.2))(hn:es.length<=1000000)(hlt:kV p.1 e=true):Ex E1 Xw (zI es i .u .u .u .u .u [m_ (e,c)]) (.norm,zI es (i+1) .u .u .u .u .u [m_ (e,c)]):=by
 have hil:i<es.length:=(bD hi)
 have bz:ah .i64 ((i:Int)+1)=(i:Int)+1:=wrap_i64 omK;have hk1:((i+1:Nat):Int)=(i:Int)+1:=by omega
 have hk0:(0:Int)<=(i:Int):=by omega
 have hkc:(i:Int)<(es.length:Int):=by omega
 obtain⟨N,t⟩:=(Ca.fP (Ca.bO (j5 0 e p.1))).get;have hpos:0<jb e p.1:=(AU _ _).2 hlt;refine Ex.of (n:=N+100) ?_;unfold zI;rw[hk1];generalize jb e p.1=r at*;obtain⟨⟨a,b,c'⟩,x⟩:=p;obtain⟨a2,b2,c2⟩:=e;simp only[m_,qC,Ai,lM,LD]at*;generalize qs x=s,LL (qn x)=ns,LL (qd x)=ds,qs c=s',LL (qn c)=ns',LL (qd c)=ds' at*;have i1:=idx hi;simp -implicitDefEqProofs[Xw,f84,bz,hk0,hkc,hil,hi,i1,t,hpos]
theorem YO (es:List D)(e:fM)(c:Rat):Ex E1 Xw (zI es es.length .u .u .u .u .u [m_ (e,c)]) (.exit 0,zI es es.length .u .u (.d (.v (.bool false))) .u .u [m_ (e,c)]):=by
 refine Ex.of (n:=100) ?_;unfold zI m_;simp -implicitDefEqProofs[Xw,f84]
theorem YP (es:List D)(i:Nat)(p:aZ)(e:fM)(c:Rat)(hi:es[i]?=some (qC p.1 p.2))(hlt:kV p.1 e=false):Ex E1 Xw (zI es i .u .u .u .u .u [m_ (e,c)]) (.exit 0,zI es i .u .u (.d (.v (.bool false))) .u .u [m_ (e,c)]):=by
 have hil:i<es.length:=(bD hi)
 have hk0:(0:Int)<=(i:Int):=by omega
 have hkc:(i:Int)<(es.length:Int):=by omega
 obtain⟨N,t⟩:=(Ca.fP (Ca.bO (j5 0 e p.1))).get;have hpos:¬ 0<jb e p.1:=fun h=>by rw[AU,hlt]at h;cases h
 refine Ex.of (n:=N+100) ?_;unfold zI;generalize jb e p.1=r at*;obtain⟨⟨a,b,c'⟩,x⟩:=p;obtain⟨a2,b2,c2⟩:=e;simp only[m_,qC,Ai,lM,LD]at*;generalize qs x=s,LL (qn x)=ns,LL (qd x)=ds,qs c=s',LL (qn c)=ns',LL (qd c)=ds' at*;have i1:=idx hi;simp -implicitDefEqProofs[Xw,f84,hk0,hkc,hil,hi,i1,t,hpos]
theorem YQ (a b:List aZ)(e:fM)(c:Rat)(hn:(a++b).length<=1000000)(ha:∀ p ∈ a,kV p.1 e=true)(hb:∀ p r,b=p::r->kV p.1 e=false) :
  Ex E1 (.loop Xw) (zI ((a++b).map fun p=>qC p.1 p.2) 0 .u .u .u .u .u [m_ (e,c)]) (.exit 0,zI ((a++b).map fun p=>qC p.1 p.2) a.length .u .u (.d (.v (.bool false))) .u .u [m_ (e,c)]):=by
 have hlen:((a++b).map fun p=>qC p.1 p.2).length=(a++b).length:=by simp
 obtain⟨r,h1,rfl⟩:=Ex.inv (E:=E1) (b:=Xw) (S:=fun i:Nat=>zI ((a++b).map fun p=>qC p.1 p.2) i .u .u .u .u .u [m_ (e,c)]) (fun i=>a.length-i) (fun i=>i<=a.length)
  (fun r=>r=(.exit 0,zI ((a++b).map fun p=>qC p.1 p.2) a.length .u .u (.d (.v (.bool false))) .u .u [m_ (e,c)])) (by
   intro i hi
   by_cases h:i<a.length
   ·have hp:((a++b).map fun p=>qC p.1 p.2)[i]?=some (qC a[i].1 a[i].2):=by
     rw[Qb1,Qa1 h,Qa0 h];rfl
    exact .inl ⟨i+1,UB _ i a[i] e c hp (by rw[hlen];exact hn) (ha _ (Qi2 h)),by omega,by omega⟩
   ·obtain rfl:i=a.length:=by omega
    cases b with
    | nil =>
     have:=YO (a.map fun p:aZ=>qC p.1 p.2) e c;rw[Qk2]at this;simp only[Q91];exact .inr ⟨_,this,by simp,rfl⟩
    | cons p r =>
     have hp:((a++p::r).map fun p=>qC p.1 p.2)[a.length]?=some (qC p.1 p.2):=by
      rw[Qb1,Qc1 (Qd1 _),Xq0];rfl
     exact .inr ⟨_,YP _ _ p e c hp (hb p r rfl),by simp,rfl⟩) 0 (Q02 _)
 exact h1
section
theorem UC {E:Env}{F:ai}{n:Nat}{c:aG}{st:St}{r:FV × Option (List ae)}(h:(match EX E n c st with|some (.exit _,_)=>none|some (_,st')=>finish F st'|none=>none)=some r) :
  ∃ o st',Ex E c st (o,st')/\(∀ id,o≠.exit id)/\finish F st'=some r:=by
 cases he:EX E n c st with
 | none=>rw[he]at h;cases h
 | some x =>
  obtain⟨o,st'⟩:=x;rw[he]at h;cases o with
  | exit id=>cases h
  | norm=>exact⟨_,_,Ex.of he,fun id hid=>(by cases hid),h⟩
  | ret=>exact⟨_,_,Ex.of he,fun id hid=>(by cases hid),h⟩
theorem jL (az n:Nat)(es:List D)(h:n=es.length):ae.view az 6 0 n (.row az 6 es)=some es:=by
 subst h;simp[ae.view]
section put
variable (es:List D) (e:fM) (c:Rat)
def puA:St:=(st0 [.d (.s 6 es),.u,.r (.loc 0) 0,.u,.u,.u,.u,.u,.u,.u] [m_ (e,c)])
theorem afk:Ex E1 f84.body.l (st0 [.d (.s 6 es),.d (qC e c),.u,.u,.u,.u,.u,.u,.u,.u] []) (.norm,puA es e c):=by
 refine Ex.of (n:=60) ?_;unfold puA m_ qC Ai LD;simp -implicitDefEqProofs[f84]
theorem ab9 (hc:qz c<=100000)(h:¬ (bR e=true/\c≠0)):Ex E1 f84.body.r.l (puA es e c) (.ret,(st0 [.u,.u,.u,.d (.s 6 es),.u,.u,.u,.u,.u,.u] [m_ (e,c)])):=by
 obtain⟨N,hN,t1,t2⟩:=((Ca.fP (Ca.bO (oZ 0 e))).j ((Ca.fP (mI c omK)).any)).at 0;refine Ex.of (n:=N+100) ?_;have hz:bR e=true->c.num.sign=0:=fun hf=>by
  have:c=0:=Classical.byContradiction fun h3=>h ⟨hf,h3⟩
  subst this;rfl
 generalize bR e=f,c.num.sign=sg at*;unfold puA;simp only[m_,lM,qD,raw,LD]at*;generalize qs c=s',LL (qn c)=ns',LL (qd c)=ds' at*;cases f
 ·simp -implicitDefEqProofs[f84,t1]
 ·have:=hz rfl;subst this;simp -implicitDefEqProofs[f84,t1,t2]
theorem ab_ (hc:qz c<=100000)(hf:bR e=true)(h0:c≠0):Ex E1 f84.body.r.l (puA es e c) (.norm,(st0 [.d (.s 6 es),.u,.r (.loc 0) 0,.u,.u,.u,.d (.v (.bool false)),.u,.u,.u] [m_ (e,c)])):=by
 obtain⟨N,hN,t1,t2⟩:=((Ca.fP (Ca.bO (oZ 0 e))).j ((Ca.fP (mI c omK)).any)).at 0;have hz:c.num.sign≠0:=fun h=>h0 (Rat.num_eq_zero.1 (Q90.1 h))
 refine Ex.of (n:=N+100) ?_;rw[hf]at t1;generalize c.num.sign=sg at*;unfold puA;simp only[m_,lM,qD,raw,LD]at*;generalize qs c=s',LL (qn c)=ns',LL (qd c)=ds' at*;have hz':(sg==0)=false:=by simpa using hz
 simp -implicitDefEqProofs[f84,t1,t2,hz']
theorem afl:Ex E1 f84.body.r.r.l (st0 [.d (.s 6 es),.u,.r (.loc 0) 0,.u,.u,.u,.d (.v (.bool false)),.u,.u,.u] [m_ (e,c)]) (.norm,zI es 0 .u .u .u .u .u [m_ (e,c)]):=by
 refine Ex.of (n:=60) ?_;unfold zI m_;simp -implicitDefEqProofs[f84]
end put
theorem tk (A:List D)(x:D):List.take (A.length+1) (A++[x])=A++[x]:=by rw[show A.length+1=(A++[x]).length by simp,Qn1]
theorem hv1 (az:Nat)(A:List D)(x:D):ae.view az 6 0 (A.length+1) (.row az 6 (A++[x]))=some (A++[x]):=jL _ _ _ (by simp)
theorem hv2 (az:Nat)(A:List D)(x y:D)(B':List D):ae.view az 6 0 (A.length+1+(B'.length+1)) (.row az 6 (A++x::y::B'))=some (A++x::y::B'):=jL _ _ _ (by simp;omega)
theorem hv3 (az:Nat)(x y:D)(B':List D):ae.view az 6 0 (1+(B'.length+1)) (.row az 6 (x::y::B'))=some (x::y::B'):=jL _ _ _ (by simp;omega)
theorem hv4 (az:Nat)(A B':List D):ae.view az 6 0 (A.length+B'.length) (.row az 6 (A++B'))=some (A++B'):=jL _ _ _ (by simp)
theorem hv5 (az:Nat)(A:List D)(x:D)(B':List D):ae.view az 6 0 (A.length+1+B'.length) (.row az 6 (A++x::B'))=some (A++x::B'):=jL _ _ _ (by simp;omega)
theorem hv6 (az:Nat)(x:D)(B':List D):ae.view az 6 0 (1+B'.length) (.row az 6 (x::B'))=some (x::B'):=jL _ _ _ (by simp;omega)
theorem hv8 (az:Nat)(x:D):ae.view az 6 0 1 (.row az 6 [x])=some [x]:=jL _ _ _ rfl
theorem hv9 (az:Nat)(B':List D):ae.view az 6 0 B'.length (.row az 6 B')=some B':=jL _ _ _ rfl
theorem UD (A:List D)(e:fM)(c:Rat)(hn:(A++[]).length<=1000000) :
  ∃ n,(match EX E1 n f84.body.r.r.r.r (zI (A++[]) A.length .u .u (.d (.v (.bool false))) .u .u [m_ (e,c)]) with|some (.exit _,_)=>none|some (_,st')=>finish f84 st'|none=>none)=some (.d (.s 6 (A++[qC e c])),none):=by
 rw[Qb0]at hn;have Xx:(0:Int)<=(A.length:Int):=by omega
 have bz:ah .i64 ((A.length:Int)+1)=(A.length:Int)+1:=wrap_i64 omK;have m1:A.length*80<=1099511627776:=by omega
 have m2:A.length<=1099511627776:=by omega
 have m3:(A.length+1)*80<=1099511627776:=by omega
 have m4:A.length+1<=1099511627776:=by omega
 refine⟨200,?_⟩;unfold zI;obtain⟨a2,b2,c2⟩:=e;simp only[m_,qC,Ai,LD]at*;generalize qs c=s1,LL (qn c)=ns1,LL (qd c)=ds1 at*
 by_cases hA:A=[]
 ·subst hA;simp -implicitDefEqProofs[f84,kT,Ii,most,hv8]
 ·have hA1:A.isEmpty=false:=by simpa using hA
  simp -implicitDefEqProofs[f84,kT,Ii,most,Xx,tk,hv1,m1,m2,m3,m4,hA1]
theorem Qn (A B':List D)(e:fM)(c:Rat)(p:aZ)(hn:(A++qC p.1 p.2::B').length<=1000000)(hne:p.1≠e) :
  ∃ n,(match EX E1 n f84.body.r.r.r.r (zI (A++qC p.1 p.2::B') A.length .u .u (.d (.v (.bool false))) .u .u [m_ (e,c)]) with|some (.exit _,_)=>none|some (_,st')=>finish f84 st'|none=>none)=some (.d (.s 6 (A++qC e c::qC p.1 p.2::B')),none):=by
 rw[Qb0]at hn;have Xx:(0:Int)<=(A.length:Int):=by omega
 have bz:ah .i64 ((A.length:Int)+1)=(A.length:Int)+1:=wrap_i64 omK;have m1:A.length*80<=1099511627776:=by omega
 have m2:A.length<=1099511627776:=by omega
 have m3:(A.length+1)*80<=1099511627776:=by omega
 have m4:A.length+1<=1099511627776:=by omega
 rw[Qe2]at hn;have m5:(A.length+1+(B'.length+1))*80<=1099511627776:=by omega
 have m6:A.length+1+(B'.length+1)<=1099511627776:=by omega
 have m7:(1+(B'.length+1))*80<=1099511627776:=by omega
 have m8:1+(B'.length+1)<=1099511627776:=by omega
 have k1:(A.length:Int)<(A.length:Int)+((B'.length:Int)+1):=by omega
 have k2:A.length<A.length+(B'.length+1):=by omega
 have k3:¬ (A.length:Int)=(A.length:Int)+((B'.length:Int)+1):=by omega
 have k3':((A.length:Int)==(A.length:Int)+((B'.length:Int)+1))=false:=by simpa using k3
 have k10:((A.length:Int)+((B'.length:Int)+1)).toNat=A.length+(B'.length+1):=by omega
 have k11:((B'.length:Int)+1).toNat=B'.length+1:=by omega
 have w1:ah .i64 1=1:=wrap_i64 omK;have k12:A.length+(B'.length+1)-A.length=B'.length+1:=by omega
 have j1:(0:Int)<=(B'.length:Int)+1:=by omega
 have j2:(1:Int)<=(B'.length:Int)+1:=by omega
 have j3:(0:Int)<(B'.length:Int)+1:=by omega
 have k3n:¬ (0:Int)=(B'.length:Int)+1:=by omega
 have k3m:((0:Int)==(B'.length:Int)+1)=false:=by simpa using k3n
 have k4:(A.length:Int)<=(A.length:Int)+((B'.length:Int)+1):=by omega
 obtain⟨N,t⟩:=(Ca.fP (Ca.bO (j5 0 e p.1))).get;have h0:jb e p.1≠0:=fun h=>hne ((Cj _ _).1 h).symm
 have h0':(jb e p.1 != 0)=true:=by simpa using h0
 have hg:∀ x:D,(A++x::B')[A.length]?=some x:=fun x=>by simp
 refine⟨N+200,?_⟩;generalize jb e p.1=r at*;unfold zI;obtain⟨a2,b2,c2⟩:=e;obtain⟨⟨a,b,c'⟩,x⟩:=p;simp only[m_,qC,Ai,lM,LD]at*;generalize qs c=s1,LL (qn c)=ns1,LL (qd c)=ds1,qs x=s2,LL (qn x)=ns2,LL (qd x)=ds2 at*
 by_cases hA:A=[]
 ·subst hA;simp (maxSteps:=400000) -implicitDefEqProofs[f84,kT,Ii,most,hv3,t,h0',m7,m8,k3m,j1,k11]
 ·have hA1:A.isEmpty=false:=by simpa using hA
  simp -implicitDefEqProofs[f84,kT,Ii,most,Xx,tk,hv2,m1,m2,m3,m4,hA1,t,h0',m5,m6,k2,k3',k10,k12,k4]
theorem UE (A B':List D)(e:fM)(c:Rat)(p:aZ)(hn:(A++qC p.1 p.2::B').length<=1000000)(he:p.1=e)(hc:qz c<=50000)(hp:qz p.2<=50000)(hs:c+p.2=0) :
  ∃ n,(match EX E1 n f84.body.r.r.r.r (zI (A++qC p.1 p.2::B') A.length .u .u (.d (.v (.bool false))) .u .u [m_ (e,c)]) with|some (.exit _,_)=>none|some (_,st')=>finish f84 st'|none=>none)=some (.d (.s 6 (A++B')),none):=by
 rw[Qb0]at hn;have Xx:(0:Int)<=(A.length:Int):=by omega
 have bz:ah .i64 ((A.length:Int)+1)=(A.length:Int)+1:=wrap_i64 omK;have m1:A.length*80<=1099511627776:=by omega
 have m2:A.length<=1099511627776:=by omega
 have m3:(A.length+1)*80<=1099511627776:=by omega
 have m4:A.length+1<=1099511627776:=by omega
 rw[Qe2]at hn;have m5:(A.length+1+B'.length)*80<=1099511627776:=by omega
 have m6:A.length+1+B'.length<=1099511627776:=by omega
 have m7:(1+B'.length)*80<=1099511627776:=by omega
 have m8:1+B'.length<=1099511627776:=by omega
 have m9:(A.length+B'.length)*80<=1099511627776:=by omega
 have m10:A.length+B'.length<=1099511627776:=by omega
 have m11:B'.length*80<=1099511627776:=by omega
 have m12:B'.length<=1099511627776:=by omega
 have k1:(A.length:Int)<(A.length:Int)+((B'.length:Int)+1):=by omega
 have k2:A.length<A.length+(B'.length+1):=by omega
 have k3:¬ (A.length:Int)=(A.length:Int)+((B'.length:Int)+1):=by omega
 have k3':((A.length:Int)==(A.length:Int)+((B'.length:Int)+1))=false:=by simpa using k3
 have k10:((A.length:Int)+((B'.length:Int)+1)).toNat=A.length+(B'.length+1):=by omega
 have k11:((B'.length:Int)+1).toNat=B'.length+1:=by omega
 have w1:ah .i64 1=1:=wrap_i64 omK;have k12:A.length+(B'.length+1)-A.length=B'.length+1:=by omega
 have j1:(0:Int)<=(B'.length:Int)+1:=by omega
 have j2:(1:Int)<=(B'.length:Int)+1:=by omega
 have j3:(0:Int)<(B'.length:Int)+1:=by omega
 have k3n:¬ (0:Int)=(B'.length:Int)+1:=by omega
 have k3m:((0:Int)==(B'.length:Int)+1)=false:=by simpa using k3n
 have k4:(A.length:Int)<=(A.length:Int)+((B'.length:Int)+1):=by omega
 have k5:(A.length:Int)+1<=(A.length:Int)+((B'.length:Int)+1):=by omega
 have k6:(0:Int)<=(A.length:Int)+1:=by omega
 have k7:((A.length:Int)+1).toNat=A.length+1:=by omega
 have k8:A.length+(B'.length+1)-(A.length+1)=B'.length:=by omega
 subst he;have hz:=oV c p.2;obtain⟨N,hN,t,t2,t3⟩:=((Ca.fP (Ca.bO (j5 0 p.1 p.1))).j ((Ca.fP (AJ c p.2 omK omK)).j ((Ca.fP (mI (c+p.2) omK)).any))).at 0;rw[(Cj p.1 p.1).2 rfl]at t;have hg:∀ x:D,(A++x::B')[A.length]?=some x:=fun x=>by simp
 have hd:∀ x:D,List.drop (A.length+1) (A++x::B')=B':=fun x=>by rw[<-Xq2];simp
 have hsg:(c+p.2).num.sign=0:=by rw[hs];rfl
 refine⟨N+200,?_⟩;generalize (c+p.2).num.sign=sg at*;generalize c+p.2=y at*;unfold zI;obtain⟨⟨a,b,c'⟩,x⟩:=p;simp only[m_,qC,Ai,lM,qD,raw,LD]at*;generalize qs c=s1,LL (qn c)=ns1,LL (qd c)=ds1,qs x=s2,LL (qn x)=ns2,LL (qd x)=ds2,qs y=s3,LL (qn y)=ns3,LL (qd y)=ds3 at*
 by_cases hA:A=[]
 ·subst hA
  by_cases hB:B'=[]
  ·subst hB;simp -implicitDefEqProofs[f84,kT,Ii,most,t,t2,t3,hsg,w1]
  ·have hB1:B'.isEmpty=false:=by simpa using hB
   simp (maxSteps:=400000) -implicitDefEqProofs[f84,kT,Ii,most,t,t2,t3,hsg,m11,m12,k3m,j1,j2,hv9,k11,w1,hB1]
 ·have hA1:A.isEmpty=false:=by simpa using hA
  simp -implicitDefEqProofs[f84,kT,Ii,most,Xx,hv4,bz,m1,m2,t,t2,t3,hsg,m9,m10,k2,k3',k10,k4,k5,k6,k7,k8,hA1,hd]
theorem YR (A B':List D)(e:fM)(c:Rat)(p:aZ)(hn:(A++qC p.1 p.2::B').length<=1000000)(he:p.1=e)(hc:qz c<=50000)(hp:qz p.2<=50000)(hs:c+p.2≠0) :
  ∃ n,(match EX E1 n f84.body.r.r.r.r (zI (A++qC p.1 p.2::B') A.length .u .u (.d (.v (.bool false))) .u .u [m_ (e,c)]) with|some (.exit _,_)=>none|some (_,st')=>finish f84 st'|none=>none)=some (.d (.s 6 (A++qC e (c+p.2)::B')),none):=by
 rw[Qb0]at hn;have Xx:(0:Int)<=(A.length:Int):=by omega
 have bz:ah .i64 ((A.length:Int)+1)=(A.length:Int)+1:=wrap_i64 omK;have m1:A.length*80<=1099511627776:=by omega
 have m2:A.length<=1099511627776:=by omega
 have m3:(A.length+1)*80<=1099511627776:=by omega
 have m4:A.length+1<=1099511627776:=by omega
 rw[Qe2]at hn;have m5:(A.length+1+B'.length)*80<=1099511627776:=by omega
 have m6:A.length+1+B'.length<=1099511627776:=by omega
 have m7:(1+B'.length)*80<=1099511627776:=by omega
 have m8:1+B'.length<=1099511627776:=by omega
 have m9:(A.length+B'.length)*80<=1099511627776:=by omega
 have m10:A.length+B'.length<=1099511627776:=by omega
 have m11:B'.length*80<=1099511627776:=by omega
 have m12:B'.length<=1099511627776:=by omega
 have k1:(A.length:Int)<(A.length:Int)+((B'.length:Int)+1):=by omega
 have k2:A.length<A.length+(B'.length+1):=by omega
 have k3:¬ (A.length:Int)=(A.length:Int)+((B'.length:Int)+1):=by omega
 have k3':((A.length:Int)==(A.length:Int)+((B'.length:Int)+1))=false:=by simpa using k3
 have k10:((A.length:Int)+((B'.length:Int)+1)).toNat=A.length+(B'.length+1):=by omega
 have k11:((B'.length:Int)+1).toNat=B'.length+1:=by omega
 have w1:ah .i64 1=1:=wrap_i64 omK;have k12:A.length+(B'.length+1)-A.length=B'.length+1:=by omega
 have j1:(0:Int)<=(B'.length:Int)+1:=by omega
 have j2:(1:Int)<=(B'.length:Int)+1:=by omega
 have j3:(0:Int)<(B'.length:Int)+1:=by omega
 have k3n:¬ (0:Int)=(B'.length:Int)+1:=by omega
 have k3m:((0:Int)==(B'.length:Int)+1)=false:=by simpa using k3n
 have k4:(A.length:Int)<=(A.length:Int)+((B'.length:Int)+1):=by omega
 have k5:(A.length:Int)+1<=(A.length:Int)+((B'.length:Int)+1):=by omega
 have k6:(0:Int)<=(A.length:Int)+1:=by omega
 have k7:((A.length:Int)+1).toNat=A.length+1:=by omega
 have k8:A.length+(B'.length+1)-(A.length+1)=B'.length:=by omega
 subst he;have hz:=oV c p.2;obtain⟨N,hN,t,t2,t3⟩:=((Ca.fP (Ca.bO (j5 0 p.1 p.1))).j ((Ca.fP (AJ c p.2 omK omK)).j ((Ca.fP (mI (c+p.2) omK)).any))).at 0;rw[(Cj p.1 p.1).2 rfl]at t;have hg:∀ x:D,(A++x::B')[A.length]?=some x:=fun x=>by simp
 have hd:∀ x:D,List.drop (A.length+1) (A++x::B')=B':=fun x=>by rw[<-Xq2];simp
 have hsg:(c+p.2).num.sign≠0:=fun h=>hs (Rat.num_eq_zero.1 (Q90.1 h))
 have afp:((c+p.2).num.sign != 0)=true:=by simpa using hsg
 refine⟨N+200,?_⟩;generalize (c+p.2).num.sign=sg at*;generalize c+p.2=y at*;unfold zI;obtain⟨⟨a,b,c'⟩,x⟩:=p;simp only[m_,qC,Ai,lM,qD,raw,LD]at*;generalize qs c=s1,LL (qn c)=ns1,LL (qd c)=ds1,qs x=s2,LL (qn x)=ns2,LL (qd x)=ds2,qs y=s3,LL (qn y)=ns3,LL (qd y)=ds3 at*
 by_cases hA:A=[]
 ·subst hA;simp (maxSteps:=400000) -implicitDefEqProofs[f84,kT,Ii,most,hv6,t,t2,t3,afp,m7,m8,k3m,j1,j2,k11,w1]
 ·have hA1:A.isEmpty=false:=by simpa using hA
  simp -implicitDefEqProofs[f84,kT,Ii,most,Xx,tk,hv5,bz,m1,m2,m3,m4,t,t2,t3,afp,m5,m6,k2,k3',k10,k4,k5,k6,k7,k8,hA1,hd]
end
theorem YS {l a b:List aZ}{e:fM}{c:Rat}(hn:l.length<=1000000)(hl:l=a++b)(ha:∀ p ∈ a,kV p.1 e=true)(hb:∀ p r,b=p::r->kV p.1 e=false)(hc:qz c<=50000)(hp:Bd 50000 l)(hins:om l e c=a++om b e c) :
  ∃ n,(match EX E1 n f84.body.r.r.r.r (zI (l.map fun p=>qC p.1 p.2) a.length .u .u (.d (.v (.bool false))) .u .u [m_ (e,c)]) with|some (.exit _,_)=>none|some (_,st')=>finish f84 st'|none=>none)=some (.d (.s 6 ((om l e c).map fun p=>qC p.1 p.2)),none):=by
 subst hl;rw[hins];rw[Qq0,Qq0];have hla:(a.map fun p=>qC p.1 p.2).length=a.length:=by simp
 cases b with
 | nil =>
  have h:=UD (a.map fun p=>qC p.1 p.2) e c (by simpa using hn);rw[hla]at h;exact h
 | cons q r =>
  have hq:=hb q r rfl;have hn':((a.map fun p=>qC p.1 p.2)++qC q.1 q.2::(r.map fun p=>qC p.1 p.2)).length<=1000000:=by simpa using hn
  have hqb:qz q.2<=50000:=hp q (by simp);have hi:om (q::r) e c=if q.1=e then(if c+q.2=0 then r else(e,c+q.2)::r) else(e,c)::q::r:=by
   show(if kV q.1 e=true then q::om r e c else _)=_;rw[if_neg (by simp[hq])]
  rw[hi]
  by_cases he:q.1=e
  ·rw[if_pos he]
   by_cases h0:c+q.2=0
   ·rw[if_pos h0];have h:=UE (a.map fun p=>qC p.1 p.2) (r.map fun p=>qC p.1 p.2) e c q hn' he hc hqb h0;rw[hla]at h;exact h
   ·rw[if_neg h0];have h:=YR (a.map fun p=>qC p.1 p.2) (r.map fun p=>qC p.1 p.2) e c q hn' he hc hqb h0;rw[hla]at h;exact h
  ·rw[if_neg he];have h:=Qn (a.map fun p=>qC p.1 p.2) (r.map fun p=>qC p.1 p.2) e c q hn' he;rw[hla]at h;exact h
theorem Ml (l:List aZ)(e:fM)(c:Rat)(hn:l.length<=1000000)(hb:Bd 50000 l)(hc:qz c<=50000):Ca E1 84 [.d (aT l),.d (qC e c)] (.d (aT (lZ l e c)),none):=by
 have hA:=afk (l.map fun p=>qC p.1 p.2) e c
 by_cases h:bR e=true/\c≠0
 ·obtain⟨a,b,h1,h2,h3,h4⟩:=E_ e l;obtain⟨n,hn'⟩:=YS hn h1 h2 h3 hc hb (h4 c);obtain⟨o,st',hE,ho,hf⟩:=UC hn';have hput:lZ l e c=om l e c:=if_pos h;rw[hput];have hB:=ab_ (l.map fun p=>qC p.1 p.2) e c omK h.1 h.2;have hC:=afl (l.map fun p=>qC p.1 p.2) e c;have hL:Ex E1 (.loop Xw) (zI (l.map fun p=>qC p.1 p.2) 0 .u .u .u .u .u [m_ (e,c)]) (.exit 0,zI (l.map fun p=>qC p.1 p.2) a.length .u .u (.d (.v (.bool false))) .u .u [m_ (e,c)]):=by
   have:=YQ a b e c (by rw[<-h1];exact hn) h2 h3;rw[<-h1]at this;exact this
  refine Ca.body (o:=o) (st1:=st') rfl (k84:E1.fn _=_) rfl ?_ ho hf;show Ex E1 (.seq f84.body.l (.seq f84.body.r.l (.seq f84.body.r.r.l (.seq (.block 0 (.loop Xw)) f84.body.r.r.r.r)))) _ _;exact hA.seq (hB.seq (hC.seq (hL.block.seq hE)))
 ·have hput:lZ l e c=l:=if_neg h;rw[hput];have hB:=ab9 (l.map fun p=>qC p.1 p.2) e c omK h;refine Ca.body (o:=.ret) rfl (k84:E1.fn _=_) rfl ?_ (by intro id h;cases h) (st1:=(st0 [.u,.u,.u,.d (.s 6 (l.map fun p=>qC p.1 p.2)),.u,.u,.u,.u,.u,.u] [m_ (e,c)])) ?_
  ·show Ex E1 (.seq f84.body.l (.seq f84.body.r.l f84.body.r.r)) _ _;exact hA.seq hB.dG
  ·unfold aT;generalize (l.map fun p=>qC p.1 p.2)=es at*;simp -implicitDefEqProofs[f84]
def tkL:aG:=f86.body.r.r.r.l.r.bl.lp
def Qo (es:List D)(i:Nat)(out t:FV)(L:List ae):St:=(st0 [.d (.s 6 es),.u,out,.d (.v (.int .i64 i)),.u,t] L)
theorem UF (es:List D)(i:Nat)(p:aZ)(out:FV)(L:List ae)(xs:List D)(hi:es[i]?=some (qC p.1 p.2))(hn:es.length<=1000000)(hq:qz p.2<=100000)(ho:nY out L xs)(hx:xs.length<=1000000) :
  ∃ out' L',Ex E1 tkL (Qo es i out .u L) (.norm,Qo es (i+1) out' .u L')/\nY out' L' (xs++[qC p.1 p.2]):=by
 have hil:i<es.length:=(bD hi)
 have bz:ah .i64 ((i:Int)+1)=(i:Int)+1:=wrap_i64 omK;have hk1:((i+1:Nat):Int)=(i:Int)+1:=by omega
 have hk0:(0:Int)<=(i:Int):=by omega
 have hkc:(i:Int)<(es.length:Int):=by omega
 obtain⟨N,t⟩:=(Ca.fP (iG p.2 omK)).get;obtain⟨⟨a,b,c⟩,x⟩:=p;simp only[qC,Ai,qD,raw,LD]at*;generalize qs x=s,LL (qn x)=ns,LL (qd x)=ds at*;have i1:=idx hi;rcases ho with ⟨rfl,rfl⟩|⟨j,az,rfl,hrow⟩
 ·refine⟨.ls (.loc L.length) 0 6 0 1,L++[.row 0 6 [.a [.v (.int .i64 a),.v (.int .i64 b),.v (.int .i64 c),.v (.bool s),.s 1 ns,.s 1 ds]]],Ex.of (n:=N+100) ?_,.inr ⟨L.length,0,by simp,by simp⟩⟩;unfold Qo;rw[hk1];simp -implicitDefEqProofs[tkL,f86,bz,hk0,hkc,hil,hi,i1,t,most]
 ·have hm1:(xs.length+1)*80<=1099511627776:=by omega
  have hm2:xs.length+1<=1099511627776:=by omega
  have hjl:j<L.length:=(bD hrow)
  have i2:=idx hrow;refine⟨.ls (.loc j) (az+1) 6 0 (xs.length+1),L.set j (.row (az+1) 6 (xs++[.a [.v (.int .i64 a),.v (.int .i64 b),.v (.int .i64 c),.v (.bool s),.s 1 ns,.s 1 ds]])),Ex.of (n:=N+100) ?_,.inr ⟨j,az+1,by simp,by simp[hjl]⟩⟩;unfold Qo;rw[hk1];simp -implicitDefEqProofs[tkL,f86,bz,hk0,hkc,hil,hi,i1,t,most,hrow,i2,hm1,hm2]
theorem YT (l:List aZ)(hn:l.length<=1000000)(hb:Bd 100000 l) :
  ∃ out L,Ex E1 (.loop tkL) (Qo (l.map fun p=>qC p.1 p.2) 0 (.d (.n 6)) .u []) (.exit 0,Qo (l.map fun p=>qC p.1 p.2) l.length out (.d (.v (.bool false))) L)/\nY out L (l.map fun p=>qC p.1 p.2):=by
 have hlen:(l.map fun p=>qC p.1 p.2).length=l.length:=by simp
 obtain⟨r,h1,out,L,rfl,h3⟩:=Ex.inv (E:=E1) (b:=tkL) (α:=Nat × FV × List ae) (S:=fun a=>Qo (l.map fun p=>qC p.1 p.2) a.1 a.2.1 .u a.2.2) (fun a=>l.length-a.1)
  (fun a=>a.1<=l.length/\nY a.2.1 a.2.2 ((l.take a.1).map fun p=>qC p.1 p.2)) (fun r=>∃ out L,r=(.exit 0,Qo (l.map fun p=>qC p.1 p.2) l.length out (.d (.v (.bool false))) L)/\nY out L (l.map fun p=>qC p.1 p.2)) (by
   rintro⟨i,out,L⟩ ⟨q1,q2⟩;simp only at q1 q2
   by_cases hi:i<l.length
   ·have hp:l[i]?=some l[i]:=Qa0 hi;have hp2:(l.map fun p=>qC p.1 p.2)[i]?=some (qC l[i].1 l[i].2):=by rw[Qb1,hp];rfl
    obtain⟨out',L',g1,g2⟩:=UF _ i l[i] out L _ hp2 (by rw[hlen];exact hn) (hb _ (Qi2 hi)) q2 (by rw[Qk2,Qr1];omega);refine .inl ⟨(i+1,out',L'),g1,by show l.length-(i+1)<l.length-i;omega,by show i+1<=_;omega,?_⟩;show nY out' L' ((l.take (i+1)).map fun p=>qC p.1 p.2);rw[Q01,hp];have e:((l.take i++[l[i]]).map fun p:aZ=>qC p.1 p.2)=((l.take i).map fun p=>qC p.1 p.2)++[qC l[i].1 l[i].2]:=by rw[Qq0];rfl
    show nY out' L' ((l.take i++[l[i]]).map fun p:aZ=>qC p.1 p.2);rw[e];exact g2
   ·obtain rfl:i=l.length:=by omega
    rw[Qn1]at q2;refine .inr ⟨_,Ex.of (n:=60) ?_,?_,out,L,rfl,q2⟩
    ·simp only[Qo];rw[<-hlen];generalize (l.map fun p=>qC p.1 p.2)=es at*;simp -implicitDefEqProofs[tkL,f86]
    ·simp) (0,.d (.n 6),[]) ⟨Q02 _,.inl ⟨rfl,rfl⟩⟩
 exact⟨out,L,h1,h3⟩
theorem pG {S:Nat}{l:List aZ}(h:PV S l)(hS:S<=1000):∃ o,Ca E1 86 [.d (aT l)] (.d (aT l),o)/\o=none:=by
 have hq:=ES _ (Uy h hS);rw[AR h (fun m hm=>by cases hm),<-Gw]at hq;obtain⟨N,t⟩:=(Ca.fP hq).get;have hlen:=h.length;obtain⟨out,L,hl,ho⟩:=YT l omK (h.bd.mono omK);have hA:Ex E1 f86.body.l (st0 [.d (aT l),.u,.u,.u,.u,.u] []) (.norm,(st0 [.d (aT l),.u,.u,.u,.u,.u] [])):=by
  refine Ex.of (n:=60) ?_;generalize aT l=x;simp -implicitDefEqProofs[f86]
 have hB:Ex E1 f86.body.r.l (st0 [.d (aT l),.u,.u,.u,.u,.u] []) (.norm,(st0 [.d (aT l),.u,.u,.u,.d (.v (.bool false)),.u] [])):=by
  refine Ex.of (n:=N+60) ?_;unfold aT at*;generalize (l.map fun p=>qC p.1 p.2)=es at*;simp -implicitDefEqProofs[f86,t]
 have hC:Ex E1 f86.body.r.r.l (st0 [.d (aT l),.u,.u,.u,.d (.v (.bool false)),.u] []) (.norm,(st0 [.d (aT l),.u,.d (.n 6),.u,.u,.u] [])):=by
  refine Ex.of (n:=60) ?_;generalize aT l=x;simp -implicitDefEqProofs[f86]
 have hD:Ex E1 f86.body.r.r.r.l.l (st0 [.d (aT l),.u,.d (.n 6),.u,.u,.u] []) (.norm,Qo (l.map fun p=>qC p.1 p.2) 0 (.d (.n 6)) .u []):=by
  refine Ex.of (n:=60) ?_;unfold Qo aT;generalize (l.map fun p=>qC p.1 p.2)=es at*;simp -implicitDefEqProofs[f86]
 refine⟨none,?_,rfl⟩;have hE:∃ n,(match EX E1 n f86.body.r.r.r.r (Qo (l.map fun p=>qC p.1 p.2) l.length out (.d (.v (.bool false))) L) with|some (.exit _,_)=>none|some (_,st')=>finish f86 st'|none=>none)=some (.d (aT l),none):=by
  refine⟨60,?_⟩;unfold Qo aT;generalize (l.map fun p=>qC p.1 p.2)=es at*;rcases ho with ⟨rfl,rfl⟩|⟨j,az,rfl,hrow⟩
  ·simp -implicitDefEqProofs[f86]
  ·have hv:=jL az es.length es rfl;have i2:=idx hrow;simp -implicitDefEqProofs[f86,hrow,i2,hv]
 obtain⟨n,hE⟩:=hE;obtain⟨o,st',hE,ho',hf⟩:=UC hE;refine Ca.body (o:=o) (st1:=st') rfl (k86:E1.fn _=_) rfl ?_ ho' hf;show Ex E1 (.seq f86.body.l (.seq f86.body.r.l (.seq f86.body.r.r.l (.seq (.seq f86.body.r.r.r.l.l (.block 0 (.loop tkL))) f86.body.r.r.r.r)))) _ _;exact hA.seq (hB.seq (hC.seq ((hD.seq hl.block).seq hE)))
def fC (l ms:List aZ):List aZ:=ms.foldl (fun s p=>lZ s p.1 p.2) l
theorem pI (l ms:List aZ)(p:aZ):fC l (ms++[p])=lZ (fC l ms) p.1 p.2:=by simp[fC,Xp0]
theorem yM (l:List aZ)(e:fM):∀ ms:List aZ,tot (fC l ms) e=tot l e+tot (ms.filter fun p=>bR p.1) e:=by
 intro ms
 induction ms generalizing l with
 | nil=>simp only[fC,List.foldl_nil,List.filter_nil,tot];grind
 | cons p r ih =>
  show tot (fC (lZ l p.1 p.2) r) e=_;rw[ih,Ci]
  by_cases h:bR p.1=true
  ·rw[Xg0 (p:=fun p:aZ=>bR p.1) h];obtain⟨a,y⟩:=p;simp only at h;simp only[tot,h,true_and];grind
  ·rw[Xf2 (p:=fun p:aZ=>bR p.1) h];simp only[h,false_and,if_false];grind
theorem Jq {S T U:Nat}{l:List aZ}(h:PV S l)(hS:1<=S)(hSU:S<=U):∀ {ms:List aZ},Bd T ms->(∀ k e,qz (tot l e+tot ((ms.take k).filter fun p=>bR p.1) e)<=U)->PV U (fC l ms):=by
 intro ms hT hU;have main:∀ k,k<=ms.length->PV U (fC l (ms.take k)):=by
  intro k
  induction k with
  | zero=>intro _;simpa[fC] using h.mono hSU
  | succ k ih =>
   intro hk;have hp:ms[k]?=some ms[k]:=Qa0 omK;have e1:ms.take (k+1)=ms.take k++[ms[k]]:=by rw[Q01,hp];rfl
   have h1:=ih omK;rw[e1,pI];refine YN h1 omK (hT _ (Qi2 omK)) (fun e' => ?_);have h2:=hU (k+1) e';have h3:=yM l e' (ms.take (k+1));rw[e1,pI,Ci]at h3;rw[h3,<-e1];exact h2
 have:=main ms.length (Qd1 _)
 rwa [Qn1]at this
theorem zJ {ms:List aZ}(h:Fits ms):(ms.filter fun p=>bR p.1)=ms:=X20.2 (fun p hp=>h p hp)
theorem Mm {S T:Nat}(hS:1<=S)(hT:1<=T){a b:List aZ}(ha:PV S a)(hb:PV T b)(k:Nat)(e:fM):qz (tot a e+tot ((b.take k).filter fun p=>bR p.1) e)<=S+T+1:=by
 have hf:Fits (b.take k):=fun p hp=>hb.fits p (Qp0 hp)
 rw[zJ hf];have h1:=Cg hS (jd ha.Mg) ha.bd e;have hk:Keys (b.take k):=Xu0 ((List.take_sublist k b).map _) (jd hb.Mg);have h2:=Cg hT hk (fun p hp=>hb.bd p (Qp0 hp)) e;have:=oV (tot a e) (tot (b.take k) e);omega
theorem fold_add {S T:Nat}(hS:1<=S)(hT:1<=T){a b:List aZ}(ha:PV S a)(hb:PV T b)(k:Nat):PV (S+T+1) (fC a (b.take k)):=by
 refine Jq (T:=T) ha hS omK (fun p hp=>hb.bd p (Qp0 hp)) (fun j e => ?_);rw[List.take_take];exact Mm hS hT ha hb _ e
theorem Jr {S T:Nat}(hS:1<=S)(hT:1<=T){a b:List aZ}(ha:PV S a)(hb:PV T b):fC a b=gu a b:=by
 have h1:=fold_add hS hT ha hb b.length;rw[Qn1]at h1;refine PV.ext h1 (gI hS hT ha hb) (fun e => ?_);rw[yM,jK,zJ hb.fits]
def adL:aG:=f49.body.r.r.l.r.bl.lp
def R5 (b:List D)(acc:D)(i:Nat)(t:FV):St:=(st0 [.u,.d (.s 6 b),.u,.d acc,.d (.v (.int .i64 i)),t] [])
theorem UG (es:List D)(l:List aZ)(i:Nat)(p:aZ)(hi:es[i]?=some (qC p.1 p.2))(hn:es.length<=1000000)(hl:l.length<=1000000)(hb:Bd 50000 l)(hp:qz p.2<=50000):Ex E1 adL (R5 es (aT l) i .u) (.norm,R5 es (aT (lZ l p.1 p.2)) (i+1) .u):=by
 have hil:i<es.length:=(bD hi)
 have bz:ah .i64 ((i:Int)+1)=(i:Int)+1:=wrap_i64 omK;have hk1:((i+1:Nat):Int)=(i:Int)+1:=by omega
 have hk0:(0:Int)<=(i:Int):=by omega
 have hkc:(i:Int)<(es.length:Int):=by omega
 obtain⟨N,t⟩:=(Ml l p.1 p.2 hl hb hp).get;refine Ex.of (n:=N+100) ?_;unfold R5 aT at*;rw[hk1];generalize ((lZ l p.1 p.2).map fun p=>qC p.1 p.2)=y,(l.map fun p=>qC p.1 p.2)=z at*;simp only[qC,Ai,LD]at*;generalize LL (qn p.2)=ns,LL (qd p.2)=ds at*;have i1:=idx hi;simp -implicitDefEqProofs[adL,f49,bz,hk0,hkc,hil,hi,i1,t]
theorem YU {S:Nat}(hS:1<=S)(hS2:S<=20000){a b:List aZ}(ha:PV S a)(hb:PV S b) :
  Ex E1 (.loop adL) (R5 (b.map fun p=>qC p.1 p.2) (aT a) 0 .u) (.exit 0,R5 (b.map fun p=>qC p.1 p.2) (aT (gu a b)) b.length (.d (.v (.bool false)))):=by
 have hlen:(b.map fun p=>qC p.1 p.2).length=b.length:=by simp
 have lb:=hb.length;obtain⟨r,h1,rfl⟩:=Ex.inv (E:=E1) (b:=adL) (S:=fun i:Nat=>R5 (b.map fun p=>qC p.1 p.2) (aT (fC a (b.take i))) i .u) (fun i=>b.length-i) (fun i=>i<=b.length)
  (fun r=>r=(.exit 0,R5 (b.map fun p=>qC p.1 p.2) (aT (gu a b)) b.length (.d (.v (.bool false))))) (by
   intro i hi
   by_cases h:i<b.length
   ·have hp:b[i]?=some b[i]:=Qa0 h;have hp2:(b.map fun p=>qC p.1 p.2)[i]?=some (qC b[i].1 b[i].2):=by rw[Qb1,hp];rfl
    have hpv:=fold_add hS hS ha hb i;have:=UG _ (fC a (b.take i)) i b[i] hp2 omK (by have:=hpv.length;omega) (hpv.bd.mono omK) (by have:=hb.bd _ (Qi2 h);omega);refine .inl ⟨i+1,?_,by omega,by omega⟩;have e1:b.take (i+1)=b.take i++[b[i]]:=by rw[Q01,hp];rfl
    rw[e1,pI];exact this
   ·obtain rfl:i=b.length:=by omega
    refine .inr ⟨_,Ex.of (n:=60) ?_,?_,rfl⟩
    ·rw[Qn1,Jr hS hS ha hb];unfold R5;rw[<-hlen];generalize (b.map fun p=>qC p.1 p.2)=es,aT (gu a b)=x at*;simp -implicitDefEqProofs[adL,f49]
    ·simp) 0 (Q02 _)
 simpa[fC] using h1
theorem Js {S:Nat}(hS:1<=S)(hS2:S<=1000){a b:List aZ}(ha:PV S a)(hb:PV S b):Ca E1 49 [.d (aT a),.d (aT b)] (.d (aT (gu a b)),none):=by
 obtain⟨_,h1,rfl⟩:=pG ha hS2;obtain⟨_,h2,rfl⟩:=pG hb hS2;obtain⟨N,hN,t1,t2⟩:=(h1.j h2.any).at 0;have hl:=YU hS omK ha hb;have hA:Ex E1 f49.body.l (st0 [.d (aT a),.d (aT b),.u,.u,.u,.u] []) (.norm,(st0 [.d (aT a),.d (aT b),.u,.u,.u,.u] [])):=by
  refine Ex.of (n:=60) ?_;generalize aT a=x;generalize aT b=y;simp -implicitDefEqProofs[f49]
 have hB:Ex E1 f49.body.r.l (st0 [.d (aT a),.d (aT b),.u,.u,.u,.u] []) (.norm,(st0 [.u,.d (aT b),.u,.d (aT a),.u,.u] [])):=by
  refine Ex.of (n:=N+60) ?_;unfold aT at*;generalize (a.map fun p=>qC p.1 p.2)=x,(b.map fun p=>qC p.1 p.2)=y at*;simp -implicitDefEqProofs[f49,t1,t2]
 have hC:Ex E1 f49.body.r.r.l.l (st0 [.u,.d (aT b),.u,.d (aT a),.u,.u] []) (.norm,R5 (b.map fun p=>qC p.1 p.2) (aT a) 0 .u):=by
  refine Ex.of (n:=60) ?_;unfold R5 aT;simp -implicitDefEqProofs[f49]
 have hD:Ex E1 f49.body.r.r.r (R5 (b.map fun p=>qC p.1 p.2) (aT (gu a b)) b.length (.d (.v (.bool false)))) (.ret,(st0 [.u,.u,.d (aT (gu a b)),.u,.u,.u] [])):=by
  refine Ex.of (n:=60) ?_;unfold R5 aT;generalize ((gu a b).map fun p=>qC p.1 p.2)=x,(b.map fun p=>qC p.1 p.2)=y at*;simp -implicitDefEqProofs[f49]
 refine Ca.body (o:=.ret) rfl (k49:E1.fn _=_) rfl ?_ (by intro id h;cases h) (st1:=(st0 [.u,.u,.d (aT (gu a b)),.u,.u,.u] [])) ?_
 ·show Ex E1 (.seq f49.body.l (.seq f49.body.r.l (.seq (.seq f49.body.r.r.l.l (.block 0 (.loop adL))) f49.body.r.r.r))) _ _;exact hA.seq (hB.seq ((hC.seq hl.block).seq hD))
 ·unfold aT;generalize ((gu a b).map fun p=>qC p.1 p.2)=x at*;simp -implicitDefEqProofs[f49]
def Fa:aG:=f58.body.r.r.r.l.r.bl.lp
def Ck:aG:=Fa.r.l.bl
def K3:aG:=Ck.r.bl.lp
def Cm:aG:=K3.r.l.bl
def xmE:aG:=Cm.r.l.r.bl.lp
def mO (xa xb:List D)(acc:D)(i k:Nat)(v5 v6 v7 t9 R6:FV)(L:List ae):St :=
 (st0 [.d (.s 6 xa),.d (.s 6 xb),.u,.d acc,.d (.v (.int .i64 i)),v5,v6,v7,.u,t9,R6] L)
theorem YV (xa xb:List D)(acc:D)(i k:Nat)(L:List ae)(p q:aZ)(y:Rat)(hi:xa[i]?=some (qC p.1 p.2))(hk:xb[k]?=some (qC q.1 q.2))(hn:xa.length<=1000000)(hn2:xb.length<=1000000)(hp:bR p.1=true)(hq:bR q.1=true) :
  Ex E1 Cm.r.l (mO xa xb acc i 0 (.d (.v (.int .i64 k))) (.r (.loc L.length) 0) .u .u .u (L++[m_ ((0,0,0),y)]))
   (.norm,mO xa xb acc i 0 (.d (.v (.int .i64 k))) (.r (.loc L.length) 0) (.d (.v (.int .i64 3))) .u (.d (.v (.bool false))) (L++[m_ (gG p.1 q.1,y)])):=by
 have h1:=fA hp;have h2:=fA hq;have hil:i<xa.length:=(bD hi)
 have hkl:k<xb.length:=(bD hk)
 have hi0:(0:Int)<=(i:Int):=by omega
 have hk0:(0:Int)<=(k:Int):=by omega
 obtain⟨⟨a,b,c⟩,x⟩:=p;obtain⟨⟨a',b',c'⟩,x'⟩:=q;simp only at h1 h2;have w1:ah .i64 (a+a')=a+a':=wrap_i64 omK;have w2:ah .i64 (b+b')=b+b':=wrap_i64 omK;have w3:ah .i64 (c+c')=c+c':=wrap_i64 omK;have u1:ah .i64 1=1:=wrap_i64 omK;have u2:ah .i64 2=2:=wrap_i64 omK;have u3:ah .i64 3=3:=wrap_i64 omK;have g6:∀ o,(L++[o])[L.length]?=some o:=fun o=>by simp
 have gs:∀ o o',(L++[o]).set L.length o'=L++[o']:=fun o o'=>by rw[Q40 _ _ (Qd1 _)];simp
 refine Ex.of (n:=200) ?_;unfold mO;simp only[m_,qC,Ai,gG,LD]at*;generalize qs x=s,LL (qn x)=ns,LL (qd x)=ds at*;generalize qs x'=s',LL (qn x')=ns',LL (qd x')=ds',qs y=s'',LL (qn y)=ab7,LL (qd y)=ds'' at*;have i1:=idx hi;have i2:=idx hk;simp -implicitDefEqProofs[Cm,xmE,K3,Ck,Fa,f58,aC,w1,w2,w3,u1,u2,u3,hi,hk,i1,i2,hi0,hk0,hil,hkl,g6,gs]
def Acc (d:D)(l:List aZ):Prop:=d=aT l\/(d=.n 6/\l=[])
theorem UH (xa xb:List D)(i k:Nat)(acc:D)(L:List ae)(l:List aZ)(hacc:Acc acc l)(p q:aZ)(hi:xa[i]?=some (qC p.1 p.2))(hk:xb[k]?=some (qC q.1 q.2))(hn:xa.length<=1000000)(hn2:xb.length<=1000000)
  (hp:bR p.1=true) (hq:bR q.1=true) (sp:qz p.2<=20000) (sq:qz q.2<=20000) (hl:Bd 50000 l) (hll:l.length<=1000000) :
  ∃ L',Ex E1 K3 (mO xa xb acc i 0 (.d (.v (.int .i64 k))) .u .u .u .u L) (.norm,mO xa xb (aT (lZ l (gG p.1 q.1) (p.2*q.2))) i 0 (.d (.v (.int .i64 (k+1:Nat)))) .u .u .u .u L'):=by
 have hil:i<xa.length:=(bD hi)
 have hkl:k<xb.length:=(bD hk)
 have bz:ah .i64 ((k:Int)+1)=(k:Int)+1:=wrap_i64 omK;have hk1:((k+1:Nat):Int)=(k:Int)+1:=by omega
 have hi0:(0:Int)<=(i:Int):=by omega
 have hk0:(0:Int)<=(k:Int):=by omega
 have hkc:(k:Int)<(xb.length:Int):=by omega
 have hz:=BA p.2 q.2;refine⟨L++[m_ (gG p.1 q.1,p.2*q.2)],?_⟩;have hA1:Ex E1 K3.l (mO xa xb acc i 0 (.d (.v (.int .i64 k))) .u .u .u .u L) (.norm,mO xa xb acc i 0 (.d (.v (.int .i64 k))) .u .u (.d (.v (.bool true))) .u L):=by
  refine Ex.of (n:=60) ?_;unfold mO;simp -implicitDefEqProofs[K3,Ck,Fa,f58,hkc]
 have hB:Ex E1 Cm.l (mO xa xb acc i 0 (.d (.v (.int .i64 k))) .u .u (.d (.v (.bool true))) .u L) (.norm,mO xa xb acc i 0 (.d (.v (.int .i64 k))) (.r (.loc L.length) 0) .u .u .u (L++[m_ ((0,0,0),p.2*q.2)])):=by
  obtain⟨N,t⟩:=(Ca.fP (Gs p.2 q.2 omK omK)).get;refine Ex.of (n:=N+100) ?_;unfold mO;generalize p.2*q.2=y at*;obtain⟨⟨a,b,c⟩,x⟩:=p;obtain⟨⟨a',b',c'⟩,x'⟩:=q;simp only[m_,qC,Ai,qD,raw,LD]at*;generalize qs x=s,LL (qn x)=ns,LL (qd x)=ds at*;generalize qs x'=s',LL (qn x')=ns',LL (qd x')=ds',qs y=s'',LL (qn y)=ab7,LL (qd y)=ds'' at*;have i1:=idx hi;have i2:=idx hk;simp -implicitDefEqProofs[Cm,K3,Ck,Fa,f58,t,hi,hk,i1,i2,hi0,hk0,hil,hkl]
 have hE:=YV xa xb acc i k L p q (p.2*q.2) hi hk hn hn2 hp hq;have hZ:Ex E1 Cm.r.r (mO xa xb acc i 0 (.d (.v (.int .i64 k))) (.r (.loc L.length) 0) (.d (.v (.int .i64 3))) .u (.d (.v (.bool false))) (L++[m_ (gG p.1 q.1,p.2*q.2)]))
   (.norm,mO xa xb (aT (lZ l (gG p.1 q.1) (p.2*q.2))) i 0 (.d (.v (.int .i64 k))) .u .u .u .u (L++[m_ (gG p.1 q.1,p.2*q.2)])):=by
  obtain⟨N,t⟩:=(Ml l (gG p.1 q.1) (p.2*q.2) hll hl omK).get;have g6:∀ o,(L++[o])[L.length]?=some o:=fun o=>by simp
  refine Ex.of (n:=N+100) ?_;clear hA1 hB hE;have hacc':(acc=aT l)\/(acc=.n 6/\aT l=.s 6 []):=by
   rcases hacc with h|⟨h,h'⟩
   ·exact .inl h
   ·exact .inr ⟨h,by rw[h'];rfl⟩
  unfold mO aT at*;generalize ((lZ l (gG p.1 q.1) (p.2*q.2)).map fun p=>qC p.1 p.2)=y',(l.map fun p=>qC p.1 p.2)=z at*;generalize gG p.1 q.1=e,p.2*q.2=y at*;simp only[m_,qC,Ai,LD]at*;generalize qs y=s'',LL (qn y)=ab7,LL (qd y)=ds'' at*;rcases hacc' with rfl|⟨rfl,h2⟩
  ·simp -implicitDefEqProofs[Cm,K3,Ck,Fa,f58,t,g6]
  ·cases h2;simp -implicitDefEqProofs[Cm,K3,Ck,Fa,f58,t,g6]
 have hF:Ex E1 K3.r.r (mO xa xb (aT (lZ l (gG p.1 q.1) (p.2*q.2))) i 0 (.d (.v (.int .i64 k))) .u .u .u .u (L++[m_ (gG p.1 q.1,p.2*q.2)]))
   (.norm,mO xa xb (aT (lZ l (gG p.1 q.1) (p.2*q.2))) i 0 (.d (.v (.int .i64 (k+1:Nat)))) .u .u .u .u (L++[m_ (gG p.1 q.1,p.2*q.2)])):=by
  refine Ex.of (n:=60) ?_;unfold mO;rw[hk1];generalize aT (lZ l (gG p.1 q.1) (p.2*q.2))=z;simp -implicitDefEqProofs[K3,Ck,Fa,f58,bz]
 show Ex E1 (.seq K3.l (.seq (.block 3 (.seq Cm.l (.seq Cm.r.l Cm.r.r))) K3.r.r)) _ _;exact hA1.seq (((hB.seq (hE.seq hZ)).gm).seq hF)
def bT (p:aZ)(b:List aZ):List aZ:=b.map fun q=>(gG p.1 q.1,p.2*q.2)
def bE (a b:List aZ):List aZ:=a.flatMap fun p=>bT p b
theorem Mq (a b:List aZ)(p:aZ):bE (a++[p]) b=bE a b++bT p b:=by simp[bE,X21]
theorem Gz (a b:List aZ):(bE a b).length=a.length*b.length:=by
 induction a with
 | nil=>simp[bE]
 | cons p r ih =>
  have h1:bE (p::r) b=bT p b++bE r b:=by simp[bE]
  rw[h1,Qb0,ih,Qe2,Qq1];simp[bT];omega
theorem l5 (a b:List aZ):((bE a b).filter fun p=>bR p.1)=gH a b:=by
 unfold bE gH;rw[List.filter_flatMap];rfl
theorem Jt {S:Nat}{p:aZ}{b:List aZ}(hp:qz p.2<=S)(hb:Bd S b):Bd (2*S) (bT p b):=by
 intro x hx;obtain⟨q,hq,rfl⟩:=Qg2.1 hx;have:=BA p.2 q.2;have:=hb q hq;show qz (p.2*q.2)<=_;omega
theorem Ju {S:Nat}{a b:List aZ}(ha:Bd S a)(hb:Bd S b):Bd (2*S) (bE a b):=by
 intro x hx;obtain⟨p,hp,hx⟩:=Xz0.1 hx;exact Jt (ha p hp) hb x hx
theorem Fb {T:Nat}(hT:1<=T):∀ {l:List aZ},Bd T l->∀ e,qz (tot l e)<=l.length*(T+1)+1
 | [],_,e=>by
  have:=jJ;simp only[tot,Qr2];omega
 | p::l,h,e=>by
  have h1:=Fb hT (l:=l) (fun x hx=>h x (Qh0 _ hx)) e;have h2:=h p (Qj1 ..);obtain⟨a,y⟩:=p;have h3:=oV (if a=e then y else 0) (tot l e);have h4:qz (if a=e then y else 0)<=T:=by
   split
   ·exact h2
   ·exact Qc2 jJ omK
  simp only[tot,Qe2,Qq1];omega
theorem Fe {T N:Nat}(hT:1<=T){ms:List aZ}(hb:Bd T ms)(hn:ms.length<=N):PV (N*(T+1)+1) (fC [] ms):=by
 refine Jq (S:=1) (T:=T) (PV.nil 1) omK omK hb (fun k e => ?_);have h1:tot [] e+tot ((ms.take k).filter fun p=>bR p.1) e=tot ((ms.take k).filter fun p=>bR p.1) e:=by simp only[tot];grind
 rw[h1];have h2:=Fb hT (l:=(ms.take k).filter fun p=>bR p.1) (fun p hp=>hb p (Qp0 (Qz1.1 hp).1)) e;have h3:((ms.take k).filter fun p=>bR p.1).length<=N:=Qc2 (Xq1 _ _) (by rw[Qr1];omega);exact Qc2 h2 (X10 (Qe1 _ h3) 1)
theorem Jv {S:Nat}(hS:1<=S){a b:List aZ}(ha:PV S a)(hb:PV S b):fC [] (bE a b)=iH a b:=by
 refine PV.ext (Fe (T:=2*S) omK (Ju ha.bd hb.bd) (Qd1 _)) (h_ hS ha hb) (fun e => ?_);rw[yM,l5,wV];simp only[tot];grind
theorem YW {S:Nat}(hS:1<=S)(hS2:S<=1000)(xa:List D)(b pre:List aZ)(i:Nat)(acc:D)(hacc:Acc acc (fC [] pre))(L:List ae)(p:aZ)(hi:xa[i]?=some (qC p.1 p.2))(hn:xa.length<=1000000)(hp:bR p.1=true)(sp:qz p.2<=S)(hb:PV S b)
  (hpre:Bd (2*S) pre) (hm:(pre.length+b.length)*(2*S+1)<=40000) :
  ∃ acc' L',Acc acc' (fC [] (pre++bT p b))/\Ex E1 (.loop K3) (mO xa (b.map fun p=>qC p.1 p.2) acc i 0 (.d (.v (.int .i64 0))) .u .u .u .u L)
   (.exit 2,mO xa (b.map fun p=>qC p.1 p.2) acc' i 0 (.d (.v (.int .i64 b.length))) .u .u (.d (.v (.bool false))) .u L'):=by
 have hlen:(b.map fun p=>qC p.1 p.2).length=b.length:=by simp
 have lb:=hb.length;obtain⟨r,h1,acc',L',rfl,h2⟩:=Ex.inv (E:=E1) (b:=K3) (α:=Nat × D × List ae) (S:=fun x=>mO xa (b.map fun p=>qC p.1 p.2) x.2.1 i 0 (.d (.v (.int .i64 x.1))) .u .u .u .u x.2.2) (fun x=>b.length-x.1) (fun x=>x.1<=b.length/\Acc x.2.1 (fC [] (pre++bT p (b.take x.1))))
  (fun r=>∃ acc' L',r=(.exit 2,mO xa (b.map fun p=>qC p.1 p.2) acc' i 0 (.d (.v (.int .i64 b.length))) .u .u (.d (.v (.bool false))) .u L')/\Acc acc' (fC [] (pre++bT p b))) (by
   rintro⟨k,acc,L⟩ ⟨hk,ha⟩;simp only at hk ha
   by_cases h:k<b.length
   ·have hpk:b[k]?=some b[k]:=Qa0 h;have hp2:(b.map fun p=>qC p.1 p.2)[k]?=some (qC b[k].1 b[k].2):=by rw[Qb1,hpk];rfl
    have hmem:=Qi2 h;have hpv:PV 40001 (fC [] (pre++bT p (b.take k))):=by
     refine(Fe (T:=2*S) (N:=pre.length+b.length) omK (fun x hx => ?_) (by simp[bT];omega)).mono omK;rcases Qw2.1 hx with hx|hx
     ·exact hpre x hx
     ·exact Jt sp (fun y hy=>hb.bd y (Qp0 hy)) x hx
    have hsq:=hb.bd _ hmem;obtain⟨L',g⟩:=UH xa _ i k acc L (fC [] (pre++bT p (b.take k))) ha p b[k] hi hp2 hn omK hp (hb.fits _ hmem) omK omK (hpv.bd.mono omK) (by have:=hpv.length;omega);have e1:bT p (b.take (k+1))=bT p (b.take k)++[(gG p.1 b[k].1,p.2*b[k].2)]:=by
     rw[Q01,hpk];unfold bT;rw[Qq0];rfl
    refine .inl ⟨(k+1,aT (lZ (fC [] (pre++bT p (b.take k))) (gG p.1 b[k].1) (p.2*b[k].2)),L'),g,by show b.length-(k+1)<b.length-k;omega,by show k+1<=_;omega,.inl ?_⟩;show _=aT (fC [] (pre++bT p (b.take (k+1))));rw[e1,<-Qo1,pI]
   ·obtain rfl:k=b.length:=by omega
    rw[Qn1]at ha;refine .inr ⟨_,Ex.of (n:=60) ?_,?_,acc,L,rfl,ha⟩
    ·unfold mO;rw[<-hlen];generalize (b.map fun p=>qC p.1 p.2)=es at*;simp -implicitDefEqProofs[K3,Ck,Fa,f58]
    ·simp) (0,acc,L) ⟨Q02 _,by simpa[bT] using hacc⟩
 exact⟨acc',L',h2,h1⟩
theorem UI {S:Nat}(hS:1<=S)(hS2:S<=1000)(a b pre:List aZ)(i:Nat)(acc:D)(hacc:Acc acc (fC [] pre))(L:List ae)(p:aZ)(hi:a[i]?=some p)(hn:a.length<=1000000)(hp:bR p.1=true)(sp:qz p.2<=S)(hb:PV S b)
  (hpre:Bd (2*S) pre) (hm:(pre.length+b.length)*(2*S+1)<=40000) :
  ∃ acc' L',Acc acc' (fC [] (pre++bT p b))/\Ex E1 Fa (mO (a.map fun p=>qC p.1 p.2) (b.map fun p=>qC p.1 p.2) acc i 0 .u .u .u .u .u L)
   (.norm,mO (a.map fun p=>qC p.1 p.2) (b.map fun p=>qC p.1 p.2) acc' (i+1) 0 .u .u .u .u .u L'):=by
 have hlen:(a.map fun p=>qC p.1 p.2).length=a.length:=by simp
 have hil:i<a.length:=(bD hi)
 have hi2:(a.map fun p=>qC p.1 p.2)[i]?=some (qC p.1 p.2):=by rw[Qb1,hi];rfl
 have bz:ah .i64 ((i:Int)+1)=(i:Int)+1:=wrap_i64 omK;have hk1:((i+1:Nat):Int)=(i:Int)+1:=by omega
 have hkc:(i:Int)<((a.map fun p=>qC p.1 p.2).length:Int):=by rw[hlen];omega
 obtain⟨acc',L',hac,hl⟩:=YW hS hS2 _ b pre i acc hacc L p hi2 (by rw[hlen];exact hn) hp sp hb hpre hm;refine⟨acc',L',hac,?_⟩;have hA:Ex E1 Fa.l (mO (a.map fun p=>qC p.1 p.2) (b.map fun p=>qC p.1 p.2) acc i 0 .u .u .u .u .u L)
   (.norm,{mO (a.map fun p=>qC p.1 p.2) (b.map fun p=>qC p.1 p.2) acc i 0 .u .u .u .u .u L with vars:=(mO (a.map fun p=>qC p.1 p.2) (b.map fun p=>qC p.1 p.2) acc i 0 .u .u .u .u .u L).vars.set 8 (.d (.v (.bool true)))}):=by
  refine Ex.of (n:=60) ?_;unfold mO;generalize (a.map fun p=>qC p.1 p.2)=x at*;simp -implicitDefEqProofs[Fa,f58,hkc]
 have hB:Ex E1 Ck.l {mO (a.map fun p=>qC p.1 p.2) (b.map fun p=>qC p.1 p.2) acc i 0 .u .u .u .u .u L with vars:=(mO (a.map fun p=>qC p.1 p.2) (b.map fun p=>qC p.1 p.2) acc i 0 .u .u .u .u .u L).vars.set 8 (.d (.v (.bool true)))}
   (.norm,mO (a.map fun p=>qC p.1 p.2) (b.map fun p=>qC p.1 p.2) acc i 0 (.d (.v (.int .i64 0))) .u .u .u .u L):=by
  refine Ex.of (n:=60) ?_;unfold mO;generalize (a.map fun p=>qC p.1 p.2)=x,(b.map fun p=>qC p.1 p.2)=y at*;simp -implicitDefEqProofs[Ck,Fa,f58]
 have hF:Ex E1 Fa.r.r (mO (a.map fun p=>qC p.1 p.2) (b.map fun p=>qC p.1 p.2) acc' i 0 (.d (.v (.int .i64 b.length))) .u .u (.d (.v (.bool false))) .u L')
   (.norm,mO (a.map fun p=>qC p.1 p.2) (b.map fun p=>qC p.1 p.2) acc' (i+1) 0 .u .u .u .u .u L'):=by
  refine Ex.of (n:=60) ?_;unfold mO;rw[hk1];generalize (a.map fun p=>qC p.1 p.2)=x,(b.map fun p=>qC p.1 p.2)=y at*;simp -implicitDefEqProofs[Fa,f58,bz]
 show Ex E1 (.seq Fa.l (.seq (.block 1 (.seq Ck.l (.block 2 (.loop K3)))) Fa.r.r)) _ _;exact hA.seq (((hB.seq hl.block).gm).seq hF)
theorem YX {S:Nat}(hS:1<=S)(hS2:S<=1000){a b:List aZ}(ha:PV S a)(hb:PV S b)(hm:(a.length*b.length+b.length)*(2*S+1)<=40000) :
  ∃ acc L',Acc acc (iH a b)/\Ex E1 (.loop Fa) (mO (a.map fun p=>qC p.1 p.2) (b.map fun p=>qC p.1 p.2) (.n 6) 0 0 .u .u .u .u .u [])
   (.exit 0,{mO (a.map fun p=>qC p.1 p.2) (b.map fun p=>qC p.1 p.2) acc a.length 0 .u .u .u .u .u L' with vars:=(mO (a.map fun p=>qC p.1 p.2) (b.map fun p=>qC p.1 p.2) acc a.length 0 .u .u .u .u .u L').vars.set 8 (.d (.v (.bool false)))}):=by
 have hlen:(a.map fun p=>qC p.1 p.2).length=a.length:=by simp
 have la:=ha.length;obtain⟨r,h1,acc,L',rfl,h2⟩:=Ex.inv (E:=E1) (b:=Fa) (α:=Nat × D × List ae) (S:=fun x=>mO (a.map fun p=>qC p.1 p.2) (b.map fun p=>qC p.1 p.2) x.2.1 x.1 0 .u .u .u .u .u x.2.2) (fun x=>a.length-x.1) (fun x=>x.1<=a.length/\Acc x.2.1 (fC [] (bE (a.take x.1) b)))
  (fun r=>∃ acc L',r=(.exit 0,{mO (a.map fun p=>qC p.1 p.2) (b.map fun p=>qC p.1 p.2) acc a.length 0 .u .u .u .u .u L' with vars:=(mO (a.map fun p=>qC p.1 p.2) (b.map fun p=>qC p.1 p.2) acc a.length 0 .u .u .u .u .u L').vars.set 8 (.d (.v (.bool false)))})/\Acc acc (iH a b)) (by
   rintro⟨i,acc,L⟩ ⟨hi,hac⟩;simp only at hi hac
   by_cases h:i<a.length
   ·have hpk:a[i]?=some a[i]:=Qa0 h;have hmem:=Qi2 h;obtain⟨acc',L',ahR,g⟩:=UI hS hS2 a b (bE (a.take i) b) i acc hac L a[i] hpk omK (ha.fits _ hmem) (ha.bd _ hmem) hb (Ju (fun x hx=>ha.bd x (Qp0 hx)) hb.bd) (by
     refine Qc2 (Qe1 _ ?_) hm;rw[Gz,Qr1,Xm2 omK];exact X10 (Qe1 _ omK) _)
    have e1:bE (a.take (i+1)) b=bE (a.take i) b++bT a[i] b:=by
     rw[Q01,hpk];exact Mq _ _ _
    refine .inl ⟨(i+1,acc',L'),g,by show a.length-(i+1)<a.length-i;omega,by show i+1<=_;omega,?_⟩;show Acc acc' (fC [] (bE (a.take (i+1)) b));rw[e1];exact ahR
   ·obtain rfl:i=a.length:=by omega
    rw[Qn1,Jv hS ha hb]at hac;refine .inr ⟨_,Ex.of (n:=60) ?_,?_,acc,L,rfl,hac⟩
    ·unfold mO;rw[<-hlen];generalize (a.map fun p=>qC p.1 p.2)=x,(b.map fun p=>qC p.1 p.2)=y at*;simp -implicitDefEqProofs[Fa,f58]
    ·simp) (0,.n 6,[]) ⟨Q02 _,.inr ⟨rfl,rfl⟩⟩
 exact⟨acc,L',h2,h1⟩
theorem Jw {S:Nat}(hS:1<=S)(hS2:S<=1000){a b:List aZ}(ha:PV S a)(hb:PV S b)(hm:(a.length*b.length+b.length)*(2*S+1)<=40000):Ca E1 58 [.d (aT a),.d (aT b)] (.d (aT (iH a b)),none):=by
 obtain⟨_,h1,rfl⟩:=pG ha hS2;obtain⟨_,h2,rfl⟩:=pG hb hS2;obtain⟨N,hN,t1,t2⟩:=(h1.j h2.any).at 0;obtain⟨acc,L',hac,hl⟩:=YX hS hS2 ha hb hm;have hA:Ex E1 f58.body.l (st0 [.d (aT a),.d (aT b),.u,.u,.u,.u,.u,.u,.u,.u,.u] []) (.norm,(st0 [.d (aT a),.d (aT b),.u,.u,.u,.u,.u,.u,.u,.u,.u] [])):=by
  refine Ex.of (n:=60) ?_;generalize aT a=x;generalize aT b=y;simp -implicitDefEqProofs[f58]
 have hB:Ex E1 f58.body.r.l (st0 [.d (aT a),.d (aT b),.u,.u,.u,.u,.u,.u,.u,.u,.u] []) (.norm,(st0 [.d (aT a),.d (aT b),.u,.u,.u,.u,.u,.u,.u,.u,.u] [])):=by
  refine Ex.of (n:=N+60) ?_;unfold aT at*;generalize (a.map fun p=>qC p.1 p.2)=x,(b.map fun p=>qC p.1 p.2)=y at*;simp -implicitDefEqProofs[f58,t1,t2]
 have hC:Ex E1 f58.body.r.r.l (st0 [.d (aT a),.d (aT b),.u,.u,.u,.u,.u,.u,.u,.u,.u] []) (.norm,(st0 [.d (aT a),.d (aT b),.u,.d (.n 6),.u,.u,.u,.u,.u,.u,.u] [])):=by
  refine Ex.of (n:=60) ?_;generalize aT a=x;generalize aT b=y;simp -implicitDefEqProofs[f58]
 have hD:Ex E1 f58.body.r.r.r.l.l (st0 [.d (aT a),.d (aT b),.u,.d (.n 6),.u,.u,.u,.u,.u,.u,.u] []) (.norm,mO (a.map fun p=>qC p.1 p.2) (b.map fun p=>qC p.1 p.2) (.n 6) 0 0 .u .u .u .u .u []):=by
  refine Ex.of (n:=60) ?_;unfold mO aT;generalize (a.map fun p=>qC p.1 p.2)=x,(b.map fun p=>qC p.1 p.2)=y at*;simp -implicitDefEqProofs[f58]
 have hE:Ex E1 f58.body.r.r.r.r {mO (a.map fun p=>qC p.1 p.2) (b.map fun p=>qC p.1 p.2) acc a.length 0 .u .u .u .u .u L' with vars:=(mO (a.map fun p=>qC p.1 p.2) (b.map fun p=>qC p.1 p.2) acc a.length 0 .u .u .u .u .u L').vars.set 8 (.d (.v (.bool false)))}
   (.ret,(st0 [.u,.u,.d acc,.u,.u,.u,.u,.u,.u,.u,.u] (L'))):=by
  refine Ex.of (n:=60) ?_;unfold mO;generalize (a.map fun p=>qC p.1 p.2)=x,(b.map fun p=>qC p.1 p.2)=y at*;simp -implicitDefEqProofs[f58]
 refine Ca.body (o:=.ret) rfl (k58:E1.fn _=_) rfl ?_ (by intro id h;cases h) (st1:=(st0 [.u,.u,.d acc,.u,.u,.u,.u,.u,.u,.u,.u] (L'))) ?_
 ·show Ex E1 (.seq f58.body.l (.seq f58.body.r.l (.seq f58.body.r.r.l (.seq (.seq f58.body.r.r.r.l.l (.block 0 (.loop Fa))) f58.body.r.r.r.r)))) _ _;exact hA.seq (hB.seq (hC.seq ((hD.seq hl.block).seq hE)))
 ·rcases hac with rfl|⟨rfl,h⟩
  ·unfold aT;generalize ((iH a b).map fun p=>qC p.1 p.2)=x at*;simp -implicitDefEqProofs[f58]
  ·rw[h];simp -implicitDefEqProofs[f58,aT]
def bX (x:Rat):List aZ:=if x=0 then [] else [((0,0,0),x)]
theorem UJ (x:Rat):lZ [] (0,0,0) x=bX x:=by
 unfold lZ bX om;have h:bR (0,0,0)=true:=by decide
 by_cases hx:x=0
 ·rw[if_pos hx,if_neg (fun h=>h.2 hx)]
 ·rw[if_neg hx,if_pos ⟨h,hx⟩]
theorem kg {S:Nat}{x:Rat}(h:qz x<=S):PV S (bX x):=by
 unfold bX;split
 ·exact PV.nil S
 ·rename_i hx;refine⟨Qk1.2 ⟨fun _ h=>(by cases h),List.Pairwise.nil⟩,fun p hp => ?_,fun p hp => ?_,fun p hp => ?_⟩<;>(rw[Q2]at hp;subst hp)
  ·exact hx
  ·exact(by decide:bR (0,0,0)=true)
  ·exact h
theorem Ff (x:Rat)(hx:qz x<=50000):Ca E1 48 [.d (qD x)] (.d (aT (bX x)),none):=by
 obtain⟨N1,t1⟩:=(Ca.fP (iG x omK)).any;have hp:=Ml [] (0,0,0) x (by simp) (fun p hp=>by cases hp) hx;rw[UJ]at hp;obtain⟨N2,t2⟩:=hp.any;obtain⟨N,hN⟩:∃ N,N=N1+N2:=⟨_,rfl⟩
 replace t1:=t1 N omK;replace t2:=t2 N omK;refine Ca.bO (n:=N+100) ?_;rw[av rfl (k48:E1.fn _=_) rfl];unfold aT at*;generalize ((bX x).map fun p=>qC p.1 p.2)=es at*;simp only[qC,Ai,qD,raw,LD,Qc0]at*;generalize qs x=s,LL (qn x)=ns,LL (qd x)=ds at*;simp -implicitDefEqProofs[f48,t1,t2]
theorem Qp {S:Nat}(hS:1<=S)(hS2:S<=1000){a:List aZ}(ha:PV S a)(x:Rat)(hx:qz x<=S)(hm:(a.length+1)*(2*S+1)<=40000):Ca E1 50 [.d (aT a),.d (qD x)] (.d (aT (iH a (bX x))),none):=by
 have hc:=kg hx;have hl:(bX x).length<=1:=by unfold bX;split<;>simp
 obtain⟨N1,t1⟩:=(Ff x omK).any;obtain⟨N2,t2⟩:=(Jw hS hS2 ha hc (by
  refine Qc2 (Qe1 _ ?_) hm;have:=Q82 a.length hl;omega)).any
 obtain⟨N,hN⟩:∃ N,N=N1+N2:=⟨_,rfl⟩
 replace t1:=t1 N omK;replace t2:=t2 N omK;refine Ca.bO (n:=N+100) ?_;rw[av rfl (k50:E1.fn _=_) rfl];unfold aT at*;generalize ((bX x).map fun p=>qC p.1 p.2)=es,((iH a (bX x)).map fun p=>qC p.1 p.2)=es2,(a.map fun p=>qC p.1 p.2)=es3 at*;simp only[qD,raw,LD]at*;generalize qs x=s,LL (qn x)=ns,LL (qd x)=ds at*;simp -implicitDefEqProofs[f50,t1,t2]
def gY (i:Nat):fM:=if i=0 then(1,0,0) else if i=1 then(0,1,0) else(0,0,1)
theorem Qq (i:Nat)(hi:i<3):Ca E1 51 [.d (.v (.int .i64 i))] (.d (aT [(gY i,1)]),none):=by
 have h1:=Ca.fP (BJ 1 1 (by decide) (by decide) (by decide));have e1:rq 1 1=1:=by decide +kernel
 rw[e1]at h1;obtain⟨N,t⟩:=h1.get;have hi0:¬ (i:Int)<0:=by omega
 have hi3:¬ (3:Int)<=(i:Int):=by omega
 have akJ:¬ (i:Int) ≥ 3:=by omega
 refine Ca.bO (n:=N+100) ?_;rw[av rfl (k51:E1.fn _=_) rfl];have hp:aT [(gY i,1)]=.s 6 [qC (gY i) 1]:=rfl;rw[hp]
 match i,hi with
 | 0,_ =>
  simp only[gY,if_true,qC,Ai,qD,raw,LD]at*;generalize qs 1=s,LL (qn 1)=ns,LL (qd 1)=ds at*;simp -implicitDefEqProofs[f51,t]
 | 1,_ =>
  simp only[gY,qC,Ai,qD,raw,LD]at*;generalize qs 1=s,LL (qn 1)=ns,LL (qd 1)=ds at*;simp -implicitDefEqProofs[f51,t]
 | 2,_ =>
  simp only[gY,qC,Ai,qD,raw,LD]at*;generalize qs 1=s,LL (qn 1)=ns,LL (qd 1)=ds at*;simp -implicitDefEqProofs[f51,t]
theorem UK (v n:Int)(hn:0<n):(v.tmod n<0->v.tmod n+n=v % n)/\(¬ v.tmod n<0->v.tmod n=v % n):=by
 have h:=Int.tmod_eq_emod (a:=v) (b:=n);have h1:=Qn0 v (show n≠0 by omega);have h2:=Ql0 v hn;have h3:(n.natAbs:Int)=n:=by omega
 constructor
 ·intro hlt;rw[h]at hlt ⊢;split at hlt
  ·omega
  ·rename_i hh;rw[if_neg hh];omega
 ·intro hlt;rw[h]at hlt ⊢;split at hlt
  ·rename_i hh;rw[if_pos hh];omega
  ·rename_i hh;rw[if_neg hh];exfalso;have:v % n≠0:=fun h0=>hh (.inr (Int.dvd_of_emod_eq_zero h0))
   omega
theorem iW (v n:Int)(hv:d_ v)(hn:0<n)(hn2:n<=1000000):Ca E0 46 [.d (.v (.int .i64 v)),.d (.v (.int .i64 n))] (.d (.v (.int .i64 (v % n))),none):=by
 obtain⟨f1,f2⟩:=UK v n hn;have h1:=Qn0 v (show n≠0 by omega);have h2:=Ql0 v hn;have n0:n≠0:=by omega
 have n1:n≠-1:=by omega
 have n0':(n==0)=false:=by simpa using n0
 refine Ca.bO (n:=60) ?_;rw[av rfl (k46:E0.fn _=_) rfl]
 by_cases h:v.tmod n<0
 ·have h3:=f1 h;have w0:ah .i64 (v.tmod n)=v.tmod n:=wrap_i64 omK;have w1:ah .i64 (v.tmod n+n)=v % n:=by rw[h3];exact wrap_i64 omK
  clear f1 f2 h3 h1 h2;simp -implicitDefEqProofs[f46,n0,n0',w0,w1,h]
 ·have h3:=f2 h;have w0:ah .i64 (v.tmod n)=v.tmod n:=by rw[h3];exact wrap_i64 omK
  clear f1 f2 h1 h2;simp -implicitDefEqProofs[f46,n0,n0',w0,h];exact h3
def uF (v:Int):Rat:=rq (v % 13-6) (1+(v.tdiv 13) % 3)
theorem Fg (v:Int)(hv:d_ v):Ca E0 47 [.d (.v (.int .i64 v))] (.d (qD (uF v)),none):=by
 have h1:=Qn0 v (show(13:Int)≠0 by omega);have h2:=Ql0 v (show(0:Int)<13 by omega);have hd:d_ (v.tdiv 13):=by
  have h:=Int.tdiv_eq_ediv (a:=v) (b:=13);have s13:Int.sign 13=1:=rfl;rw[s13]at h;unfold d_ at*;split at h<;>omega
 have h3:=Qn0 (v.tdiv 13) (show(3:Int)≠0 by omega);have h4:=Ql0 (v.tdiv 13) (show(0:Int)<3 by omega);obtain⟨N,hN,t1,t2,t3⟩:=((iW v 13 hv omK omK).j ((iW (v.tdiv 13) 3 hd omK omK).j ((BJ (v % 13-6) (1+(v.tdiv 13) % 3) omK omK omK).any))).at 0;have w0:ah .i64 (v.tdiv 13)=v.tdiv 13:=wrap_i64 hd;have w1:ah .i64 (v % 13-6)=v % 13-6:=wrap_i64 omK;have w2:ah .i64 (1+(v.tdiv 13) % 3)=1+(v.tdiv 13) % 3:=wrap_i64 omK;refine Ca.bO (n:=N+60) ?_;rw[av rfl (k47:E0.fn _=_) rfl];have e:rq (v % 13-6) (1+(v.tdiv 13) % 3)=uF v:=rfl;rw[e]at t3;generalize uF v=x at*;clear h1 h2 h3 h4 hd e hN;simp only[qD,raw,LD]at*;generalize qs x=s,LL (qn x)=ns,LL (qd x)=ds at*;simp -implicitDefEqProofs[f47,t1,t2,t3,w0,w1,w2]
def rP (k:Int):Int:=if k % 7=5\/k % 7=6 then 6 else k % 7+1
def zK (k:Int):List Int:=if k % 7=5 then [1,2] else if k % 7=6 then [3,4,5] else []
theorem YY (k:Int)(hk:d_ k):Ca E0 15 [.d (.v (.int .i64 k))] (.d (bA (rP k) (zK k)),none):=by
 have h1:=Qn0 k (show(7:Int)≠0 by omega);have h2:=Ql0 k (show(0:Int)<7 by omega);have hj:d_ (k % 7):=by unfold d_;omega
 have e7:k % 7 % 7=k % 7:=by omega
 obtain⟨N,hN,t1,t2⟩:=((iW k 7 hk omK omK).j ((iW (k % 7) 7 hj omK omK).any)).at 0;rw[e7]at t2;have w2:ah .i64 (k % 7+1)=k % 7+1:=wrap_i64 omK;refine Ca.bO (n:=N+100) ?_;rw[av rfl (k15:E0.fn _=_) rfl];unfold rP zK bA LK;generalize k % 7=j at*;clear e7 hj h1 h2 hN
 by_cases h5:j=5
 ·subst h5;simp -implicitDefEqProofs[f15,t1]
 ·by_cases h6:j=6
  ·subst h6;simp -implicitDefEqProofs[f15,t1]
  ·have h5':(j==5)=false:=by simpa using h5
   have h6':(j==6)=false:=by simpa using h6
   simp -implicitDefEqProofs[f15,t1,t2,h5,h6,h5',h6',w2]
end Fi.S
