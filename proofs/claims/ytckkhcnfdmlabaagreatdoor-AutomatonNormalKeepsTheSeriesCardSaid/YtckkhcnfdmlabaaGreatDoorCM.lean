import Derived.Test.YtckkhcnfdmlabaaGreatDoorCN
set_option linter.unusedVariables false
set_option linter.unusedSimpArgs false
noncomputable section
namespace Fi.S
open Go Fi
set_option maxHeartbeats 8000000
def nR:List aW->fE->Rat->List aW
 | [],e,c=>[(e,c)]
 | p::r,e,c=>if kK p.1 e=true then p::nR r e c else if p.1=e then(if c+p.2=0 then r else(e,c+p.2)::r) else(e,c)::p::r
def lI (l:List aW)(e:fE)(c:Rat):List aW:=if bP e=true/\c≠0 then nR l e c else l
theorem Br {l:List aW}{e:fE}{c:Rat}{p:aW}(h:p ∈ nR l e c):p=(e,c)\/p ∈ l\/∃ y,(e,y) ∈ l/\p=(e,c+y)/\c+y≠0:=by
 induction l with
 | nil=>exact .inl (by simpa[nR] using h)
 | cons q r ih =>
  unfold nR at h;split at h
  ·rcases List.mem_cons.1 h with rfl|h
   ·exact .inr (.inl (List.mem_cons_self ..))
   ·rcases ih h with h|h|⟨y,h1,h2⟩
    ·exact .inl h
    ·exact .inr (.inl (List.mem_cons_of_mem _ h))
    ·exact .inr (.inr ⟨y,List.mem_cons_of_mem _ h1,h2⟩)
  ·split at h
   ·rename_i he;split at h
    ·exact .inr (.inl (List.mem_cons_of_mem _ h))
    ·rename_i hn;rcases List.mem_cons.1 h with rfl|h
     ·obtain⟨a,y⟩:=q;simp only at he;subst he;exact .inr (.inr ⟨y,List.mem_cons_self ..,rfl,hn⟩)
     ·exact .inr (.inl (List.mem_cons_of_mem _ h))
   ·rcases List.mem_cons.1 h with rfl|h
    ·exact .inl rfl
    ·exact .inr (.inl h)
theorem Tf {l:List aW}{e:fE}{c:Rat}(e':fE):tot (nR l e c) e'=tot l e'+if e=e' then c else 0:=by
 induction l with
 | nil=>simp only[nR,tot];grind
 | cons q r ih =>
  obtain⟨a,y⟩:=q;unfold nR;split
  ·simp only[tot,ih];grind
  ·split
   ·rename_i he;simp only at he;subst he;split
    ·rename_i h0;simp only[tot]
     by_cases h:a=e'
     ·subst h;simp only[if_true];grind
     ·simp only[if_neg h];grind
    ·simp only[tot]
     by_cases h:a=e'
     ·subst h;simp only[if_true];grind
     ·simp only[if_neg h];grind
   ·simp only[tot];grind
theorem Tg {l:List aW}{e:fE}{c:Rat}(h:Za l):Za (nR l e c):=by
 induction l with
 | nil=>exact List.pairwise_cons.2 ⟨fun _ h=>(by cases h),List.Pairwise.nil⟩
 | cons q r ih =>
  have h':=List.pairwise_cons.1 h;unfold nR;split
  ·rename_i hlt;refine List.pairwise_cons.2 ⟨fun p hp => ?_,ih h'.2⟩;rcases Br hp with rfl|hp|⟨y,_,rfl,_⟩
   ·exact hlt
   ·exact h'.1 p hp
   ·exact hlt
  ·rename_i hlt;split
   ·rename_i he;split
    ·exact h'.2
    ·refine List.pairwise_cons.2 ⟨fun p hp => ?_,h'.2⟩;have:=h'.1 p hp;rw[he]at this;exact this
   ·rename_i hne;have hq:kK e q.1=true:=by
     cases h1:kK e q.1 with
     | true=>rfl
     | false=>exact absurd (jW (by simpa using hlt) h1) hne
    refine List.pairwise_cons.2 ⟨fun p hp => ?_,h⟩;rcases List.mem_cons.1 hp with rfl|hp
    ·exact hq
    ·exact nQ hq (h'.1 p hp)
theorem Bt (l:List aW)(e:fE)(c:Rat)(e':fE):tot (lI l e c) e'=tot l e'+if bP e=true/\e=e' then c else 0:=by
 unfold lI;split
 ·rename_i h;rw[Tf]
  by_cases h2:e=e'
  ·rw[if_pos h2,if_pos ⟨h.1,h2⟩]
  ·rw[if_neg h2,if_neg (fun h3=>h2 h3.2)]
 ·rename_i h;split
  ·rename_i h2;have:c=0:=Classical.byContradiction fun h3=>h ⟨h2.1,h3⟩
   subst this;grind
  ·grind
theorem Xq {S T U:Nat}{l:List aW}{e:fE}{c:Rat}(h:PV S l)(hS:1<=S)(hT:qz c<=T)(hU:∀ e',qz (tot l e'+if bP e=true/\e=e' then c else 0)<=U):PV U (lI l e c):=by
 have hs:Za (lI l e c):=by
  unfold lI;split
  ·exact Tg h.KY
  ·exact h.KY
 refine⟨hs,fun p hp => ?_,fun p hp => ?_,fun p hp => ?_⟩
 ·unfold lI at hp;split at hp
  ·rename_i hh;rcases Br hp with rfl|hp|⟨y,_,rfl,hn⟩
   ·exact hh.2
   ·exact h.nz p hp
   ·exact hn
  ·exact h.nz p hp
 ·unfold lI at hp;split at hp
  ·rename_i hh;rcases Br hp with rfl|hp|⟨y,_,rfl,hn⟩
   ·exact hh.1
   ·exact h.fits p hp
   ·exact hh.1
  ·exact h.fits p hp
 ·have h1:=sI (iV hs) hp;rw[Bt]at h1;rw[<-h1];exact hU _
theorem Eo (e:fE):∀ l:List aW,∃ a b:List aW,l=a++b/\(∀ p ∈ a,kK p.1 e=true)/\(∀ p r,b=p::r->kK p.1 e=false)/\∀ c,nR l e c=a++nR b e c
 | []=>⟨[],[],rfl,fun _ h=>(by cases h),fun _ _ h=>(by cases h),fun _=>rfl⟩
 | q::l=>by
  cases hq:kK q.1 e with
  | true =>
   obtain⟨a,b,h1,h2,h3,h4⟩:=Eo e l;refine⟨q::a,b,by rw[h1];rfl,fun p hp => ?_,h3,fun c => ?_⟩
   ·rcases List.mem_cons.1 hp with rfl|hp
    ·exact hq
    ·exact h2 p hp
   ·show(if kK q.1 e=true then q::nR l e c else _)=_;rw[if_pos hq,h4];rfl
  | false=>exact⟨[],q::l,rfl,fun _ h=>(by cases h),fun p r h=>by cases h;exact hq,fun _=>rfl⟩
end Fi.S
namespace Fi.S
open Go Fi
set_option maxHeartbeats 8000000
theorem zY (d e:fE):(0<iT d e)↔kK e d=true:=by
 obtain⟨a,b,c⟩:=d;obtain⟨a',b',c'⟩:=e;unfold kK iT gX;simp only[decide_eq_true_eq]
 repeat' split
 all_goals first|omega|simp_all|(simp_all;omega)
theorem Bu (d e:fE):iT d e=0↔d=e:=by
 constructor
 ·intro h;have h1:kK d e=false:=by unfold kK;simp;omega
  have h2:kK e d=false:=by
   cases h3:kK e d with
   | false=>rfl
   | true=>have:=(zY d e).2 h3;omega
  exact jW h1 h2
 ·rintro rfl;have h1:=d9 d;have h2:¬ 0<iT d d:=fun h=>by rw[zY,h1]at h;cases h
  unfold kK at h1;simp at h1;omega
def VS:aH:=f84.body.r.r.r.l.bl.lp
def yR (es:List D)(i:Nat)(t5 t6 t7 t8 t9:FV)(L:List ae):St :=
 (st0 [.d (.s 6 es),.u,.r (.loc 0) 0,.u,.d (.v (.int .i64 i)),t5,t6,t7,t8,t9] L)
theorem Ti (es:List D)(i:Nat)(p:aW)(e:fE)(c:Rat)(hi:es[i]?=some (qC p.1 p.2))(hn:es.length<=1000000)(hlt:kK p.1 e=true):Ex E1 VS (yR es i .u .u .u .u .u [mO (e,c)]) (.norm,yR es (i+1) .u .u .u .u .u [mO (e,c)]):=by
 have hil:i<es.length:=(bH hi)
 have bD:ah .i64 ((i:Int)+1)=(i:Int)+1:=wrap_i64 (by omega);have hk1:((i+1:Nat):Int)=(i:Int)+1:=by omega
 have hk0:(0:Int)<=(i:Int):=by omega
 have hkc:(i:Int)<(es.length:Int):=by omega
 obtain⟨N,t⟩:=(Ca.fG (Ca.bO (jU 0 e p.1))).get;have hpos:0<iT e p.1:=(zY _ _).2 hlt;refine Ex.of (n:=N+100) ?_;unfold yR;rw[hk1];generalize iT e p.1=r at*;obtain⟨⟨a,b,c'⟩,x⟩:=p;obtain⟨a2,b2,c2⟩:=e;simp only[mO,qC,zC,lq,LD]at*;generalize qs x=s,LL (qn x)=ns,LL (qd x)=ds,qs c=s',LL (qn c)=ns',LL (qd c)=ds' at*;have i1:=idx hi;simp -implicitDefEqProofs[VS,f84,bD,hk0,hkc,hil,hi,i1,t,hpos]
theorem Xr (es:List D)(e:fE)(c:Rat):Ex E1 VS (yR es es.length .u .u .u .u .u [mO (e,c)]) (.exit 0,yR es es.length .u .u (.d (.v (.bool false))) .u .u [mO (e,c)]):=by
 refine Ex.of (n:=100) ?_;unfold yR mO;simp -implicitDefEqProofs[VS,f84]
theorem Xt (es:List D)(i:Nat)(p:aW)(e:fE)(c:Rat)(hi:es[i]?=some (qC p.1 p.2))(hlt:kK p.1 e=false):Ex E1 VS (yR es i .u .u .u .u .u [mO (e,c)]) (.exit 0,yR es i .u .u (.d (.v (.bool false))) .u .u [mO (e,c)]):=by
 have hil:i<es.length:=(bH hi)
 have hk0:(0:Int)<=(i:Int):=by omega
 have hkc:(i:Int)<(es.length:Int):=by omega
 obtain⟨N,t⟩:=(Ca.fG (Ca.bO (jU 0 e p.1))).get;have hpos:¬ 0<iT e p.1:=fun h=>by rw[zY,hlt]at h;cases h
 refine Ex.of (n:=N+100) ?_;unfold yR;generalize iT e p.1=r at*;obtain⟨⟨a,b,c'⟩,x⟩:=p;obtain⟨a2,b2,c2⟩:=e;simp only[mO,qC,zC,lq,LD]at*;generalize qs x=s,LL (qn x)=ns,LL (qd x)=ds,qs c=s',LL (qn c)=ns',LL (qd c)=ds' at*;have i1:=idx hi;simp -implicitDefEqProofs[VS,f84,hk0,hkc,hil,hi,i1,t,hpos]
theorem Xu (a b:List aW)(e:fE)(c:Rat)(hn:(a++b).length<=1000000)(ha:∀ p ∈ a,kK p.1 e=true)(hb:∀ p r,b=p::r->kK p.1 e=false) :
  Ex E1 (.loop VS) (yR ((a++b).map fun p=>qC p.1 p.2) 0 .u .u .u .u .u [mO (e,c)]) (.exit 0,yR ((a++b).map fun p=>qC p.1 p.2) a.length .u .u (.d (.v (.bool false))) .u .u [mO (e,c)]):=by
 have hlen:((a++b).map fun p=>qC p.1 p.2).length=(a++b).length:=by simp
 obtain⟨r,h1,rfl⟩:=Ex.inv (E:=E1) (b:=VS) (S:=fun i:Nat=>yR ((a++b).map fun p=>qC p.1 p.2) i .u .u .u .u .u [mO (e,c)]) (fun i=>a.length-i) (fun i=>i<=a.length)
  (fun r=>r=(.exit 0,yR ((a++b).map fun p=>qC p.1 p.2) a.length .u .u (.d (.v (.bool false))) .u .u [mO (e,c)])) (by
   intro i hi
   by_cases h:i<a.length
   ·have hp:((a++b).map fun p=>qC p.1 p.2)[i]?=some (qC a[i].1 a[i].2):=by
     rw[List.getElem?_map,List.getElem?_append_left h,List.getElem?_eq_getElem h];rfl
    exact .inl ⟨i+1,Ti _ i a[i] e c hp (by rw[hlen];exact hn) (ha _ (List.getElem_mem h)),by omega,by omega⟩
   ·obtain rfl:i=a.length:=by omega
    cases b with
    | nil =>
     have:=Xr (a.map fun p:aW=>qC p.1 p.2) e c;rw[List.length_map]at this;simp only[List.append_nil];exact .inr ⟨_,this,by simp,rfl⟩
    | cons p r =>
     have hp:((a++p::r).map fun p=>qC p.1 p.2)[a.length]?=some (qC p.1 p.2):=by
      rw[List.getElem?_map,List.getElem?_append_right (Nat.le_refl _),Nat.sub_self];rfl
     exact .inr ⟨_,Xt _ _ p e c hp (hb p r rfl),by simp,rfl⟩) 0 (Nat.zero_le _)
 exact h1
section
theorem Tj {E:Env}{F:ai}{n:Nat}{c:aH}{st:St}{r:FV × Option (List ae)}(h:(match EX E n c st with|some (.exit _,_)=>none|some (_,st')=>finish F st'|none=>none)=some r) :
  ∃ o st',Ex E c st (o,st')/\(∀ id,o≠.exit id)/\finish F st'=some r:=by
 cases he:EX E n c st with
 | none=>rw[he]at h;cases h
 | some x =>
  obtain⟨o,st'⟩:=x;rw[he]at h;cases o with
  | exit id=>cases h
  | norm=>exact⟨_,_,Ex.of he,fun id hid=>(by cases hid),h⟩
  | ret=>exact⟨_,_,Ex.of he,fun id hid=>(by cases hid),h⟩
theorem jC (az n:Nat)(es:List D)(h:n=es.length):ae.view az 6 0 n (.row az 6 es)=some es:=by
 subst h;simp[ae.view]
section put
variable (es:List D) (e:fE) (c:Rat)
def puA:St:=(st0 [.d (.s 6 es),.u,.r (.loc 0) 0,.u,.u,.u,.u,.u,.u,.u] [mO (e,c)])
theorem adO:Ex E1 f84.body.l (st0 [.d (.s 6 es),.d (qC e c),.u,.u,.u,.u,.u,.u,.u,.u] []) (.norm,puA es e c):=by
 refine Ex.of (n:=60) ?_;unfold puA mO qC zC LD;simp -implicitDefEqProofs[f84]
theorem aaI (hc:qz c<=100000)(h:¬ (bP e=true/\c≠0)):Ex E1 f84.body.r.l (puA es e c) (.ret,(st0 [.u,.u,.u,.d (.s 6 es),.u,.u,.u,.u,.u,.u] [mO (e,c)])):=by
 obtain⟨N,hN,t1,t2⟩:=((Ca.fG (Ca.bO (oJ 0 e))).j ((Ca.fG (mf c (by omega))).any)).at 0;refine Ex.of (n:=N+100) ?_;have hz:bP e=true->c.num.sign=0:=fun hf=>by
  have:c=0:=Classical.byContradiction fun h3=>h ⟨hf,h3⟩
  subst this;rfl
 generalize bP e=f,c.num.sign=sg at*;unfold puA;simp only[mO,lq,qD,raw,LD]at*;generalize qs c=s',LL (qn c)=ns',LL (qd c)=ds' at*;cases f
 ·simp -implicitDefEqProofs[f84,t1]
 ·have:=hz rfl;subst this;simp -implicitDefEqProofs[f84,t1,t2]
theorem aaJ (hc:qz c<=100000)(hf:bP e=true)(h0:c≠0):Ex E1 f84.body.r.l (puA es e c) (.norm,(st0 [.d (.s 6 es),.u,.r (.loc 0) 0,.u,.u,.u,.d (.v (.bool false)),.u,.u,.u] [mO (e,c)])):=by
 obtain⟨N,hN,t1,t2⟩:=((Ca.fG (Ca.bO (oJ 0 e))).j ((Ca.fG (mf c (by omega))).any)).at 0;have hz:c.num.sign≠0:=fun h=>h0 (Rat.num_eq_zero.1 (Int.sign_eq_zero_iff_zero.1 h))
 refine Ex.of (n:=N+100) ?_;rw[hf]at t1;generalize c.num.sign=sg at*;unfold puA;simp only[mO,lq,qD,raw,LD]at*;generalize qs c=s',LL (qn c)=ns',LL (qd c)=ds' at*;have hz':(sg==0)=false:=by simpa using hz
 simp -implicitDefEqProofs[f84,t1,t2,hz']
theorem adP:Ex E1 f84.body.r.r.l (st0 [.d (.s 6 es),.u,.r (.loc 0) 0,.u,.u,.u,.d (.v (.bool false)),.u,.u,.u] [mO (e,c)]) (.norm,yR es 0 .u .u .u .u .u [mO (e,c)]):=by
 refine Ex.of (n:=60) ?_;unfold yR mO;simp -implicitDefEqProofs[f84]
end put
theorem tk (A:List D)(x:D):List.take (A.length+1) (A++[x])=A++[x]:=by rw[show A.length+1=(A++[x]).length by simp,List.take_length]
theorem hv1 (az:Nat)(A:List D)(x:D):ae.view az 6 0 (A.length+1) (.row az 6 (A++[x]))=some (A++[x]):=jC _ _ _ (by simp)
theorem hv2 (az:Nat)(A:List D)(x y:D)(B':List D):ae.view az 6 0 (A.length+1+(B'.length+1)) (.row az 6 (A++x::y::B'))=some (A++x::y::B'):=jC _ _ _ (by simp;omega)
theorem hv3 (az:Nat)(x y:D)(B':List D):ae.view az 6 0 (1+(B'.length+1)) (.row az 6 (x::y::B'))=some (x::y::B'):=jC _ _ _ (by simp;omega)
theorem hv4 (az:Nat)(A B':List D):ae.view az 6 0 (A.length+B'.length) (.row az 6 (A++B'))=some (A++B'):=jC _ _ _ (by simp)
theorem hv5 (az:Nat)(A:List D)(x:D)(B':List D):ae.view az 6 0 (A.length+1+B'.length) (.row az 6 (A++x::B'))=some (A++x::B'):=jC _ _ _ (by simp;omega)
theorem hv6 (az:Nat)(x:D)(B':List D):ae.view az 6 0 (1+B'.length) (.row az 6 (x::B'))=some (x::B'):=jC _ _ _ (by simp;omega)
theorem hv8 (az:Nat)(x:D):ae.view az 6 0 1 (.row az 6 [x])=some [x]:=jC _ _ _ rfl
theorem hv9 (az:Nat)(B':List D):ae.view az 6 0 B'.length (.row az 6 B')=some B':=jC _ _ _ rfl
theorem Tk (A:List D)(e:fE)(c:Rat)(hn:(A++[]).length<=1000000) :
  ∃ n,(match EX E1 n f84.body.r.r.r.r (yR (A++[]) A.length .u .u (.d (.v (.bool false))) .u .u [mO (e,c)]) with|some (.exit _,_)=>none|some (_,st')=>finish f84 st'|none=>none)=some (.d (.s 6 (A++[qC e c])),none):=by
 rw[List.length_append]at hn;have VT:(0:Int)<=(A.length:Int):=by omega
 have bD:ah .i64 ((A.length:Int)+1)=(A.length:Int)+1:=wrap_i64 (by omega);have m1:A.length*80<=1099511627776:=by omega
 have m2:A.length<=1099511627776:=by omega
 have m3:(A.length+1)*80<=1099511627776:=by omega
 have m4:A.length+1<=1099511627776:=by omega
 refine⟨200,?_⟩;unfold yR;obtain⟨a2,b2,c2⟩:=e;simp only[mO,qC,zC,LD]at*;generalize qs c=s1,LL (qn c)=ns1,LL (qd c)=ds1 at*
 by_cases hA:A=[]
 ·subst hA;simp -implicitDefEqProofs[f84,jo,Du,most,hv8]
 ·have hA1:A.isEmpty=false:=by simpa using hA
  simp -implicitDefEqProofs[f84,jo,Du,most,VT,tk,hv1,m1,m2,m3,m4,hA1]
theorem O3 (A B':List D)(e:fE)(c:Rat)(p:aW)(hn:(A++qC p.1 p.2::B').length<=1000000)(hne:p.1≠e) :
  ∃ n,(match EX E1 n f84.body.r.r.r.r (yR (A++qC p.1 p.2::B') A.length .u .u (.d (.v (.bool false))) .u .u [mO (e,c)]) with|some (.exit _,_)=>none|some (_,st')=>finish f84 st'|none=>none)=some (.d (.s 6 (A++qC e c::qC p.1 p.2::B')),none):=by
 rw[List.length_append]at hn;have VT:(0:Int)<=(A.length:Int):=by omega
 have bD:ah .i64 ((A.length:Int)+1)=(A.length:Int)+1:=wrap_i64 (by omega);have m1:A.length*80<=1099511627776:=by omega
 have m2:A.length<=1099511627776:=by omega
 have m3:(A.length+1)*80<=1099511627776:=by omega
 have m4:A.length+1<=1099511627776:=by omega
 rw[List.length_cons]at hn;have m5:(A.length+1+(B'.length+1))*80<=1099511627776:=by omega
 have m6:A.length+1+(B'.length+1)<=1099511627776:=by omega
 have m7:(1+(B'.length+1))*80<=1099511627776:=by omega
 have m8:1+(B'.length+1)<=1099511627776:=by omega
 have k1:(A.length:Int)<(A.length:Int)+((B'.length:Int)+1):=by omega
 have k2:A.length<A.length+(B'.length+1):=by omega
 have k3:¬ (A.length:Int)=(A.length:Int)+((B'.length:Int)+1):=by omega
 have k3':((A.length:Int)==(A.length:Int)+((B'.length:Int)+1))=false:=by simpa using k3
 have k10:((A.length:Int)+((B'.length:Int)+1)).toNat=A.length+(B'.length+1):=by omega
 have k11:((B'.length:Int)+1).toNat=B'.length+1:=by omega
 have w1:ah .i64 1=1:=wrap_i64 (by omega);have k12:A.length+(B'.length+1)-A.length=B'.length+1:=by omega
 have j1:(0:Int)<=(B'.length:Int)+1:=by omega
 have j2:(1:Int)<=(B'.length:Int)+1:=by omega
 have j3:(0:Int)<(B'.length:Int)+1:=by omega
 have k3n:¬ (0:Int)=(B'.length:Int)+1:=by omega
 have k3m:((0:Int)==(B'.length:Int)+1)=false:=by simpa using k3n
 have k4:(A.length:Int)<=(A.length:Int)+((B'.length:Int)+1):=by omega
 obtain⟨N,t⟩:=(Ca.fG (Ca.bO (jU 0 e p.1))).get;have h0:iT e p.1≠0:=fun h=>hne ((Bu _ _).1 h).symm
 have h0':(iT e p.1 != 0)=true:=by simpa using h0
 have hg:∀ x:D,(A++x::B')[A.length]?=some x:=fun x=>by simp
 refine⟨N+200,?_⟩;generalize iT e p.1=r at*;unfold yR;obtain⟨a2,b2,c2⟩:=e;obtain⟨⟨a,b,c'⟩,x⟩:=p;simp only[mO,qC,zC,lq,LD]at*;generalize qs c=s1,LL (qn c)=ns1,LL (qd c)=ds1,qs x=s2,LL (qn x)=ns2,LL (qd x)=ds2 at*
 by_cases hA:A=[]
 ·subst hA;simp (maxSteps:=400000) -implicitDefEqProofs[f84,jo,Du,most,hv3,t,h0',m7,m8,k3m,j1,k11]
 ·have hA1:A.isEmpty=false:=by simpa using hA
  simp -implicitDefEqProofs[f84,jo,Du,most,VT,tk,hv2,m1,m2,m3,m4,hA1,t,h0',m5,m6,k2,k3',k10,k12,k4]
theorem Tm (A B':List D)(e:fE)(c:Rat)(p:aW)(hn:(A++qC p.1 p.2::B').length<=1000000)(he:p.1=e)(hc:qz c<=50000)(hp:qz p.2<=50000)(hs:c+p.2=0) :
  ∃ n,(match EX E1 n f84.body.r.r.r.r (yR (A++qC p.1 p.2::B') A.length .u .u (.d (.v (.bool false))) .u .u [mO (e,c)]) with|some (.exit _,_)=>none|some (_,st')=>finish f84 st'|none=>none)=some (.d (.s 6 (A++B')),none):=by
 rw[List.length_append]at hn;have VT:(0:Int)<=(A.length:Int):=by omega
 have bD:ah .i64 ((A.length:Int)+1)=(A.length:Int)+1:=wrap_i64 (by omega);have m1:A.length*80<=1099511627776:=by omega
 have m2:A.length<=1099511627776:=by omega
 have m3:(A.length+1)*80<=1099511627776:=by omega
 have m4:A.length+1<=1099511627776:=by omega
 rw[List.length_cons]at hn;have m5:(A.length+1+B'.length)*80<=1099511627776:=by omega
 have m6:A.length+1+B'.length<=1099511627776:=by omega
 have m7:(1+B'.length)*80<=1099511627776:=by omega
 have m8:1+B'.length<=1099511627776:=by omega
 have m9:(A.length+B'.length)*80<=1099511627776:=by omega
 have m10:A.length+B'.length<=1099511627776:=by omega
 have m11:B'.length*80<=1099511627776:=by omega
 have m12:B'.length<=1099511627776:=by omega
 have k1:(A.length:Int)<(A.length:Int)+((B'.length:Int)+1):=by omega
 have k2:A.length<A.length+(B'.length+1):=by omega
 have k3:¬ (A.length:Int)=(A.length:Int)+((B'.length:Int)+1):=by omega
 have k3':((A.length:Int)==(A.length:Int)+((B'.length:Int)+1))=false:=by simpa using k3
 have k10:((A.length:Int)+((B'.length:Int)+1)).toNat=A.length+(B'.length+1):=by omega
 have k11:((B'.length:Int)+1).toNat=B'.length+1:=by omega
 have w1:ah .i64 1=1:=wrap_i64 (by omega);have k12:A.length+(B'.length+1)-A.length=B'.length+1:=by omega
 have j1:(0:Int)<=(B'.length:Int)+1:=by omega
 have j2:(1:Int)<=(B'.length:Int)+1:=by omega
 have j3:(0:Int)<(B'.length:Int)+1:=by omega
 have k3n:¬ (0:Int)=(B'.length:Int)+1:=by omega
 have k3m:((0:Int)==(B'.length:Int)+1)=false:=by simpa using k3n
 have k4:(A.length:Int)<=(A.length:Int)+((B'.length:Int)+1):=by omega
 have k5:(A.length:Int)+1<=(A.length:Int)+((B'.length:Int)+1):=by omega
 have k6:(0:Int)<=(A.length:Int)+1:=by omega
 have k7:((A.length:Int)+1).toNat=A.length+1:=by omega
 have k8:A.length+(B'.length+1)-(A.length+1)=B'.length:=by omega
 subst he;have hz:=oH c p.2;obtain⟨N,hN,t,t2,t3⟩:=((Ca.fG (Ca.bO (jU 0 p.1 p.1))).j ((Ca.fG (zS c p.2 (by omega) (by omega))).j ((Ca.fG (mf (c+p.2) (by omega))).any))).at 0;rw[(Bu p.1 p.1).2 rfl]at t;have hg:∀ x:D,(A++x::B')[A.length]?=some x:=fun x=>by simp
 have hd:∀ x:D,List.drop (A.length+1) (A++x::B')=B':=fun x=>by rw[<-List.drop_drop];simp
 have hsg:(c+p.2).num.sign=0:=by rw[hs];rfl
 refine⟨N+200,?_⟩;generalize (c+p.2).num.sign=sg at*;generalize c+p.2=y at*;unfold yR;obtain⟨⟨a,b,c'⟩,x⟩:=p;simp only[mO,qC,zC,lq,qD,raw,LD]at*;generalize qs c=s1,LL (qn c)=ns1,LL (qd c)=ds1,qs x=s2,LL (qn x)=ns2,LL (qd x)=ds2,qs y=s3,LL (qn y)=ns3,LL (qd y)=ds3 at*
 by_cases hA:A=[]
 ·subst hA
  by_cases hB:B'=[]
  ·subst hB;simp -implicitDefEqProofs[f84,jo,Du,most,t,t2,t3,hsg,w1]
  ·have hB1:B'.isEmpty=false:=by simpa using hB
   simp (maxSteps:=400000) -implicitDefEqProofs[f84,jo,Du,most,t,t2,t3,hsg,m11,m12,k3m,j1,j2,hv9,k11,w1,hB1]
 ·have hA1:A.isEmpty=false:=by simpa using hA
  simp -implicitDefEqProofs[f84,jo,Du,most,VT,hv4,bD,m1,m2,t,t2,t3,hsg,m9,m10,k2,k3',k10,k4,k5,k6,k7,k8,hA1,hd]
theorem Xv (A B':List D)(e:fE)(c:Rat)(p:aW)(hn:(A++qC p.1 p.2::B').length<=1000000)(he:p.1=e)(hc:qz c<=50000)(hp:qz p.2<=50000)(hs:c+p.2≠0) :
  ∃ n,(match EX E1 n f84.body.r.r.r.r (yR (A++qC p.1 p.2::B') A.length .u .u (.d (.v (.bool false))) .u .u [mO (e,c)]) with|some (.exit _,_)=>none|some (_,st')=>finish f84 st'|none=>none)=some (.d (.s 6 (A++qC e (c+p.2)::B')),none):=by
 rw[List.length_append]at hn;have VT:(0:Int)<=(A.length:Int):=by omega
 have bD:ah .i64 ((A.length:Int)+1)=(A.length:Int)+1:=wrap_i64 (by omega);have m1:A.length*80<=1099511627776:=by omega
 have m2:A.length<=1099511627776:=by omega
 have m3:(A.length+1)*80<=1099511627776:=by omega
 have m4:A.length+1<=1099511627776:=by omega
 rw[List.length_cons]at hn;have m5:(A.length+1+B'.length)*80<=1099511627776:=by omega
 have m6:A.length+1+B'.length<=1099511627776:=by omega
 have m7:(1+B'.length)*80<=1099511627776:=by omega
 have m8:1+B'.length<=1099511627776:=by omega
 have m9:(A.length+B'.length)*80<=1099511627776:=by omega
 have m10:A.length+B'.length<=1099511627776:=by omega
 have m11:B'.length*80<=1099511627776:=by omega
 have m12:B'.length<=1099511627776:=by omega
 have k1:(A.length:Int)<(A.length:Int)+((B'.length:Int)+1):=by omega
 have k2:A.length<A.length+(B'.length+1):=by omega
 have k3:¬ (A.length:Int)=(A.length:Int)+((B'.length:Int)+1):=by omega
 have k3':((A.length:Int)==(A.length:Int)+((B'.length:Int)+1))=false:=by simpa using k3
 have k10:((A.length:Int)+((B'.length:Int)+1)).toNat=A.length+(B'.length+1):=by omega
 have k11:((B'.length:Int)+1).toNat=B'.length+1:=by omega
 have w1:ah .i64 1=1:=wrap_i64 (by omega);have k12:A.length+(B'.length+1)-A.length=B'.length+1:=by omega
 have j1:(0:Int)<=(B'.length:Int)+1:=by omega
 have j2:(1:Int)<=(B'.length:Int)+1:=by omega
 have j3:(0:Int)<(B'.length:Int)+1:=by omega
 have k3n:¬ (0:Int)=(B'.length:Int)+1:=by omega
 have k3m:((0:Int)==(B'.length:Int)+1)=false:=by simpa using k3n
 have k4:(A.length:Int)<=(A.length:Int)+((B'.length:Int)+1):=by omega
 have k5:(A.length:Int)+1<=(A.length:Int)+((B'.length:Int)+1):=by omega
 have k6:(0:Int)<=(A.length:Int)+1:=by omega
 have k7:((A.length:Int)+1).toNat=A.length+1:=by omega
 have k8:A.length+(B'.length+1)-(A.length+1)=B'.length:=by omega
 subst he;have hz:=oH c p.2;obtain⟨N,hN,t,t2,t3⟩:=((Ca.fG (Ca.bO (jU 0 p.1 p.1))).j ((Ca.fG (zS c p.2 (by omega) (by omega))).j ((Ca.fG (mf (c+p.2) (by omega))).any))).at 0;rw[(Bu p.1 p.1).2 rfl]at t;have hg:∀ x:D,(A++x::B')[A.length]?=some x:=fun x=>by simp
 have hd:∀ x:D,List.drop (A.length+1) (A++x::B')=B':=fun x=>by rw[<-List.drop_drop];simp
 have hsg:(c+p.2).num.sign≠0:=fun h=>hs (Rat.num_eq_zero.1 (Int.sign_eq_zero_iff_zero.1 h))
 have adU:((c+p.2).num.sign != 0)=true:=by simpa using hsg
 refine⟨N+200,?_⟩;generalize (c+p.2).num.sign=sg at*;generalize c+p.2=y at*;unfold yR;obtain⟨⟨a,b,c'⟩,x⟩:=p;simp only[mO,qC,zC,lq,qD,raw,LD]at*;generalize qs c=s1,LL (qn c)=ns1,LL (qd c)=ds1,qs x=s2,LL (qn x)=ns2,LL (qd x)=ds2,qs y=s3,LL (qn y)=ns3,LL (qd y)=ds3 at*
 by_cases hA:A=[]
 ·subst hA;simp (maxSteps:=400000) -implicitDefEqProofs[f84,jo,Du,most,hv6,t,t2,t3,adU,m7,m8,k3m,j1,j2,k11,w1]
 ·have hA1:A.isEmpty=false:=by simpa using hA
  simp -implicitDefEqProofs[f84,jo,Du,most,VT,tk,hv5,bD,m1,m2,m3,m4,t,t2,t3,adU,m5,m6,k2,k3',k10,k4,k5,k6,k7,k8,hA1,hd]
end
theorem Xw {l a b:List aW}{e:fE}{c:Rat}(hn:l.length<=1000000)(hl:l=a++b)(ha:∀ p ∈ a,kK p.1 e=true)(hb:∀ p r,b=p::r->kK p.1 e=false)(hc:qz c<=50000)(hp:Bd 50000 l)(hins:nR l e c=a++nR b e c) :
  ∃ n,(match EX E1 n f84.body.r.r.r.r (yR (l.map fun p=>qC p.1 p.2) a.length .u .u (.d (.v (.bool false))) .u .u [mO (e,c)]) with|some (.exit _,_)=>none|some (_,st')=>finish f84 st'|none=>none)=some (.d (.s 6 ((nR l e c).map fun p=>qC p.1 p.2)),none):=by
 subst hl;rw[hins];rw[List.map_append,List.map_append];have hla:(a.map fun p=>qC p.1 p.2).length=a.length:=by simp
 cases b with
 | nil =>
  have h:=Tk (a.map fun p=>qC p.1 p.2) e c (by simpa using hn);rw[hla]at h;exact h
 | cons q r =>
  have hq:=hb q r rfl;have hn':((a.map fun p=>qC p.1 p.2)++qC q.1 q.2::(r.map fun p=>qC p.1 p.2)).length<=1000000:=by simpa using hn
  have hqb:qz q.2<=50000:=hp q (by simp);have hi:nR (q::r) e c=if q.1=e then(if c+q.2=0 then r else(e,c+q.2)::r) else(e,c)::q::r:=by
   show(if kK q.1 e=true then q::nR r e c else _)=_;rw[if_neg (by simp[hq])]
  rw[hi]
  by_cases he:q.1=e
  ·rw[if_pos he]
   by_cases h0:c+q.2=0
   ·rw[if_pos h0];have h:=Tm (a.map fun p=>qC p.1 p.2) (r.map fun p=>qC p.1 p.2) e c q hn' he hc hqb h0;rw[hla]at h;exact h
   ·rw[if_neg h0];have h:=Xv (a.map fun p=>qC p.1 p.2) (r.map fun p=>qC p.1 p.2) e c q hn' he hc hqb h0;rw[hla]at h;exact h
  ·rw[if_neg he];have h:=O3 (a.map fun p=>qC p.1 p.2) (r.map fun p=>qC p.1 p.2) e c q hn' he;rw[hla]at h;exact h
theorem K6 (l:List aW)(e:fE)(c:Rat)(hn:l.length<=1000000)(hb:Bd 50000 l)(hc:qz c<=50000):Ca E1 84 [.d (aR l),.d (qC e c)] (.d (aR (lI l e c)),none):=by
 have hA:=adO (l.map fun p=>qC p.1 p.2) e c
 by_cases h:bP e=true/\c≠0
 ·obtain⟨a,b,h1,h2,h3,h4⟩:=Eo e l;obtain⟨n,hn'⟩:=Xw hn h1 h2 h3 hc hb (h4 c);obtain⟨o,st',hE,ho,hf⟩:=Tj hn';have hput:lI l e c=nR l e c:=if_pos h;rw[hput];have hB:=aaJ (l.map fun p=>qC p.1 p.2) e c (by omega) h.1 h.2;have hC:=adP (l.map fun p=>qC p.1 p.2) e c;have hL:Ex E1 (.loop VS) (yR (l.map fun p=>qC p.1 p.2) 0 .u .u .u .u .u [mO (e,c)]) (.exit 0,yR (l.map fun p=>qC p.1 p.2) a.length .u .u (.d (.v (.bool false))) .u .u [mO (e,c)]):=by
   have:=Xu a b e c (by rw[<-h1];exact hn) h2 h3;rw[<-h1]at this;exact this
  refine Ca.body (o:=o) (st1:=st') rfl (k84:E1.fn _=_) rfl ?_ ho hf;show Ex E1 (.seq f84.body.l (.seq f84.body.r.l (.seq f84.body.r.r.l (.seq (.block 0 (.loop VS)) f84.body.r.r.r.r)))) _ _;exact hA.seq (hB.seq (hC.seq (hL.block.seq hE)))
 ·have hput:lI l e c=l:=if_neg h;rw[hput];have hB:=aaI (l.map fun p=>qC p.1 p.2) e c (by omega) h;refine Ca.body (o:=.ret) rfl (k84:E1.fn _=_) rfl ?_ (by intro id h;cases h) (st1:=(st0 [.u,.u,.u,.d (.s 6 (l.map fun p=>qC p.1 p.2)),.u,.u,.u,.u,.u,.u] [mO (e,c)])) ?_
  ·show Ex E1 (.seq f84.body.l (.seq f84.body.r.l f84.body.r.r)) _ _;exact hA.seq hB.dI
  ·unfold aR;generalize (l.map fun p=>qC p.1 p.2)=es at*;simp -implicitDefEqProofs[f84]
def tkL:aH:=f86.body.r.r.r.l.r.bl.lp
def O4 (es:List D)(i:Nat)(out t:FV)(L:List ae):St:=(st0 [.d (.s 6 es),.u,out,.d (.v (.int .i64 i)),.u,t] L)
theorem Tn (es:List D)(i:Nat)(p:aW)(out:FV)(L:List ae)(xs:List D)(hi:es[i]?=some (qC p.1 p.2))(hn:es.length<=1000000)(hq:qz p.2<=100000)(ho:nO out L xs)(hx:xs.length<=1000000) :
  ∃ out' L',Ex E1 tkL (O4 es i out .u L) (.norm,O4 es (i+1) out' .u L')/\nO out' L' (xs++[qC p.1 p.2]):=by
 have hil:i<es.length:=(bH hi)
 have bD:ah .i64 ((i:Int)+1)=(i:Int)+1:=wrap_i64 (by omega);have hk1:((i+1:Nat):Int)=(i:Int)+1:=by omega
 have hk0:(0:Int)<=(i:Int):=by omega
 have hkc:(i:Int)<(es.length:Int):=by omega
 obtain⟨N,t⟩:=(Ca.fG (il p.2 (by omega))).get;obtain⟨⟨a,b,c⟩,x⟩:=p;simp only[qC,zC,qD,raw,LD]at*;generalize qs x=s,LL (qn x)=ns,LL (qd x)=ds at*;have i1:=idx hi;rcases ho with ⟨rfl,rfl⟩|⟨j,az,rfl,hrow⟩
 ·refine⟨.ls (.loc L.length) 0 6 0 1,L++[.row 0 6 [.a [.v (.int .i64 a),.v (.int .i64 b),.v (.int .i64 c),.v (.bool s),.s 1 ns,.s 1 ds]]],Ex.of (n:=N+100) ?_,.inr ⟨L.length,0,by simp,by simp⟩⟩;unfold O4;rw[hk1];simp -implicitDefEqProofs[tkL,f86,bD,hk0,hkc,hil,hi,i1,t,most]
 ·have hm1:(xs.length+1)*80<=1099511627776:=by omega
  have hm2:xs.length+1<=1099511627776:=by omega
  have hjl:j<L.length:=(bH hrow)
  have i2:=idx hrow;refine⟨.ls (.loc j) (az+1) 6 0 (xs.length+1),L.set j (.row (az+1) 6 (xs++[.a [.v (.int .i64 a),.v (.int .i64 b),.v (.int .i64 c),.v (.bool s),.s 1 ns,.s 1 ds]])),Ex.of (n:=N+100) ?_,.inr ⟨j,az+1,by simp,by simp[hjl]⟩⟩;unfold O4;rw[hk1];simp -implicitDefEqProofs[tkL,f86,bD,hk0,hkc,hil,hi,i1,t,most,hrow,i2,hm1,hm2]
theorem Xx (l:List aW)(hn:l.length<=1000000)(hb:Bd 100000 l) :
  ∃ out L,Ex E1 (.loop tkL) (O4 (l.map fun p=>qC p.1 p.2) 0 (.d (.n 6)) .u []) (.exit 0,O4 (l.map fun p=>qC p.1 p.2) l.length out (.d (.v (.bool false))) L)/\nO out L (l.map fun p=>qC p.1 p.2):=by
 have hlen:(l.map fun p=>qC p.1 p.2).length=l.length:=by simp
 obtain⟨r,h1,out,L,rfl,h3⟩:=Ex.inv (E:=E1) (b:=tkL) (α:=Nat × FV × List ae) (S:=fun a=>O4 (l.map fun p=>qC p.1 p.2) a.1 a.2.1 .u a.2.2) (fun a=>l.length-a.1)
  (fun a=>a.1<=l.length/\nO a.2.1 a.2.2 ((l.take a.1).map fun p=>qC p.1 p.2)) (fun r=>∃ out L,r=(.exit 0,O4 (l.map fun p=>qC p.1 p.2) l.length out (.d (.v (.bool false))) L)/\nO out L (l.map fun p=>qC p.1 p.2)) (by
   rintro⟨i,out,L⟩ ⟨q1,q2⟩;simp only at q1 q2
   by_cases hi:i<l.length
   ·have hp:l[i]?=some l[i]:=List.getElem?_eq_getElem hi;have hp2:(l.map fun p=>qC p.1 p.2)[i]?=some (qC l[i].1 l[i].2):=by rw[List.getElem?_map,hp];rfl
    obtain⟨out',L',g1,g2⟩:=Tn _ i l[i] out L _ hp2 (by rw[hlen];exact hn) (hb _ (List.getElem_mem hi)) q2 (by rw[List.length_map,List.length_take];omega);refine .inl ⟨(i+1,out',L'),g1,by show l.length-(i+1)<l.length-i;omega,by show i+1<=_;omega,?_⟩;show nO out' L' ((l.take (i+1)).map fun p=>qC p.1 p.2);rw[List.take_add_one,hp];have e:((l.take i++[l[i]]).map fun p:aW=>qC p.1 p.2)=((l.take i).map fun p=>qC p.1 p.2)++[qC l[i].1 l[i].2]:=by rw[List.map_append];rfl
    show nO out' L' ((l.take i++[l[i]]).map fun p:aW=>qC p.1 p.2);rw[e];exact g2
   ·obtain rfl:i=l.length:=by omega
    rw[List.take_length]at q2;refine .inr ⟨_,Ex.of (n:=60) ?_,?_,out,L,rfl,q2⟩
    ·simp only[O4];rw[<-hlen];generalize (l.map fun p=>qC p.1 p.2)=es at*;simp -implicitDefEqProofs[tkL,f86]
    ·simp) (0,.d (.n 6),[]) ⟨Nat.zero_le _,.inl ⟨rfl,rfl⟩⟩
 exact⟨out,L,h1,h3⟩
theorem oU {S:Nat}{l:List aW}(h:PV S l)(hS:S<=1000):∃ o,Ca E1 86 [.d (aR l)] (.d (aR l),o)/\o=none:=by
 have hq:=Ee _ (Te h hS);rw[zX h (fun m hm=>by cases hm),<-FL]at hq;obtain⟨N,t⟩:=(Ca.fG hq).get;have hlen:=h.length;obtain⟨out,L,hl,ho⟩:=Xx l (by omega) (h.bd.mono (by omega));have hA:Ex E1 f86.body.l (st0 [.d (aR l),.u,.u,.u,.u,.u] []) (.norm,(st0 [.d (aR l),.u,.u,.u,.u,.u] [])):=by
  refine Ex.of (n:=60) ?_;generalize aR l=x;simp -implicitDefEqProofs[f86]
 have hB:Ex E1 f86.body.r.l (st0 [.d (aR l),.u,.u,.u,.u,.u] []) (.norm,(st0 [.d (aR l),.u,.u,.u,.d (.v (.bool false)),.u] [])):=by
  refine Ex.of (n:=N+60) ?_;unfold aR at*;generalize (l.map fun p=>qC p.1 p.2)=es at*;simp -implicitDefEqProofs[f86,t]
 have hC:Ex E1 f86.body.r.r.l (st0 [.d (aR l),.u,.u,.u,.d (.v (.bool false)),.u] []) (.norm,(st0 [.d (aR l),.u,.d (.n 6),.u,.u,.u] [])):=by
  refine Ex.of (n:=60) ?_;generalize aR l=x;simp -implicitDefEqProofs[f86]
 have hD:Ex E1 f86.body.r.r.r.l.l (st0 [.d (aR l),.u,.d (.n 6),.u,.u,.u] []) (.norm,O4 (l.map fun p=>qC p.1 p.2) 0 (.d (.n 6)) .u []):=by
  refine Ex.of (n:=60) ?_;unfold O4 aR;generalize (l.map fun p=>qC p.1 p.2)=es at*;simp -implicitDefEqProofs[f86]
 refine⟨none,?_,rfl⟩;have hE:∃ n,(match EX E1 n f86.body.r.r.r.r (O4 (l.map fun p=>qC p.1 p.2) l.length out (.d (.v (.bool false))) L) with|some (.exit _,_)=>none|some (_,st')=>finish f86 st'|none=>none)=some (.d (aR l),none):=by
  refine⟨60,?_⟩;unfold O4 aR;generalize (l.map fun p=>qC p.1 p.2)=es at*;rcases ho with ⟨rfl,rfl⟩|⟨j,az,rfl,hrow⟩
  ·simp -implicitDefEqProofs[f86]
  ·have hv:=jC az es.length es rfl;have i2:=idx hrow;simp -implicitDefEqProofs[f86,hrow,i2,hv]
 obtain⟨n,hE⟩:=hE;obtain⟨o,st',hE,ho',hf⟩:=Tj hE;refine Ca.body (o:=o) (st1:=st') rfl (k86:E1.fn _=_) rfl ?_ ho' hf;show Ex E1 (.seq f86.body.l (.seq f86.body.r.l (.seq f86.body.r.r.l (.seq (.seq f86.body.r.r.r.l.l (.block 0 (.loop tkL))) f86.body.r.r.r.r)))) _ _;exact hA.seq (hB.seq (hC.seq ((hD.seq hl.block).seq hE)))
def eU (l ms:List aW):List aW:=ms.foldl (fun s p=>lI s p.1 p.2) l
theorem oV (l ms:List aW)(p:aW):eU l (ms++[p])=lI (eU l ms) p.1 p.2:=by simp[eU,List.foldl_append]
theorem xP (l:List aW)(e:fE):∀ ms:List aW,tot (eU l ms) e=tot l e+tot (ms.filter fun p=>bP p.1) e:=by
 intro ms
 induction ms generalizing l with
 | nil=>simp only[eU,List.foldl_nil,List.filter_nil,tot];grind
 | cons p r ih =>
  show tot (eU (lI l p.1 p.2) r) e=_;rw[ih,Bt]
  by_cases h:bP p.1=true
  ·rw[List.filter_cons_of_pos (p:=fun p:aW=>bP p.1) h];obtain⟨a,y⟩:=p;simp only at h;simp only[tot,h,true_and];grind
  ·rw[List.filter_cons_of_neg (p:=fun p:aW=>bP p.1) h];simp only[h,false_and,if_false];grind
theorem Iq {S T U:Nat}{l:List aW}(h:PV S l)(hS:1<=S)(hSU:S<=U):∀ {ms:List aW},Bd T ms->(∀ k e,qz (tot l e+tot ((ms.take k).filter fun p=>bP p.1) e)<=U)->PV U (eU l ms):=by
 intro ms hT hU;have main:∀ k,k<=ms.length->PV U (eU l (ms.take k)):=by
  intro k
  induction k with
  | zero=>intro _;simpa[eU] using h.mono hSU
  | succ k ih =>
   intro hk;have hp:ms[k]?=some ms[k]:=List.getElem?_eq_getElem (by omega);have e1:ms.take (k+1)=ms.take k++[ms[k]]:=by rw[List.take_add_one,hp];rfl
   have h1:=ih (by omega);rw[e1,oV];refine Xq h1 (by omega) (hT _ (List.getElem_mem (by omega))) (fun e' => ?_);have h2:=hU (k+1) e';have h3:=xP l e' (ms.take (k+1));rw[e1,oV,Bt]at h3;rw[h3,<-e1];exact h2
 have:=main ms.length (Nat.le_refl _)
 rwa [List.take_length]at this
theorem yS {ms:List aW}(h:Fits ms):(ms.filter fun p=>bP p.1)=ms:=List.filter_eq_self.2 (fun p hp=>h p hp)
theorem K7 {S T:Nat}(hS:1<=S)(hT:1<=T){a b:List aW}(ha:PV S a)(hb:PV T b)(k:Nat)(e:fE):qz (tot a e+tot ((b.take k).filter fun p=>bP p.1) e)<=S+T+1:=by
 have hf:Fits (b.take k):=fun p hp=>hb.fits p (List.mem_of_mem_take hp)
 rw[yS hf];have h1:=Bq hS (iV ha.KY) ha.bd e;have hk:Keys (b.take k):=List.Nodup.sublist ((List.take_sublist k b).map _) (iV hb.KY);have h2:=Bq hT hk (fun p hp=>hb.bd p (List.mem_of_mem_take hp)) e;have:=oH (tot a e) (tot (b.take k) e);omega
theorem fold_add {S T:Nat}(hS:1<=S)(hT:1<=T){a b:List aW}(ha:PV S a)(hb:PV T b)(k:Nat):PV (S+T+1) (eU a (b.take k)):=by
 refine Iq (T:=T) ha hS (by omega) (fun p hp=>hb.bd p (List.mem_of_mem_take hp)) (fun j e => ?_);rw[List.take_take];exact K7 hS hT ha hb _ e
theorem Ir {S T:Nat}(hS:1<=S)(hT:1<=T){a b:List aW}(ha:PV S a)(hb:PV T b):eU a b=fQ a b:=by
 have h1:=fold_add hS hT ha hb b.length;rw[List.take_length]at h1;refine PV.ext h1 (gp hS hT ha hb) (fun e => ?_);rw[xP,jB,yS hb.fits]
def adL:aH:=f49.body.r.r.l.r.bl.lp
def QR (b:List D)(acc:D)(i:Nat)(t:FV):St:=(st0 [.u,.d (.s 6 b),.u,.d acc,.d (.v (.int .i64 i)),t] [])
theorem Tp (es:List D)(l:List aW)(i:Nat)(p:aW)(hi:es[i]?=some (qC p.1 p.2))(hn:es.length<=1000000)(hl:l.length<=1000000)(hb:Bd 50000 l)(hp:qz p.2<=50000):Ex E1 adL (QR es (aR l) i .u) (.norm,QR es (aR (lI l p.1 p.2)) (i+1) .u):=by
 have hil:i<es.length:=(bH hi)
 have bD:ah .i64 ((i:Int)+1)=(i:Int)+1:=wrap_i64 (by omega);have hk1:((i+1:Nat):Int)=(i:Int)+1:=by omega
 have hk0:(0:Int)<=(i:Int):=by omega
 have hkc:(i:Int)<(es.length:Int):=by omega
 obtain⟨N,t⟩:=(K6 l p.1 p.2 hl hb hp).get;refine Ex.of (n:=N+100) ?_;unfold QR aR at*;rw[hk1];generalize ((lI l p.1 p.2).map fun p=>qC p.1 p.2)=y,(l.map fun p=>qC p.1 p.2)=z at*;simp only[qC,zC,LD]at*;generalize LL (qn p.2)=ns,LL (qd p.2)=ds at*;have i1:=idx hi;simp -implicitDefEqProofs[adL,f49,bD,hk0,hkc,hil,hi,i1,t]
theorem Xy {S:Nat}(hS:1<=S)(hS2:S<=20000){a b:List aW}(ha:PV S a)(hb:PV S b) :
  Ex E1 (.loop adL) (QR (b.map fun p=>qC p.1 p.2) (aR a) 0 .u) (.exit 0,QR (b.map fun p=>qC p.1 p.2) (aR (fQ a b)) b.length (.d (.v (.bool false)))):=by
 have hlen:(b.map fun p=>qC p.1 p.2).length=b.length:=by simp
 have lb:=hb.length;obtain⟨r,h1,rfl⟩:=Ex.inv (E:=E1) (b:=adL) (S:=fun i:Nat=>QR (b.map fun p=>qC p.1 p.2) (aR (eU a (b.take i))) i .u) (fun i=>b.length-i) (fun i=>i<=b.length)
  (fun r=>r=(.exit 0,QR (b.map fun p=>qC p.1 p.2) (aR (fQ a b)) b.length (.d (.v (.bool false))))) (by
   intro i hi
   by_cases h:i<b.length
   ·have hp:b[i]?=some b[i]:=List.getElem?_eq_getElem h;have hp2:(b.map fun p=>qC p.1 p.2)[i]?=some (qC b[i].1 b[i].2):=by rw[List.getElem?_map,hp];rfl
    have hpv:=fold_add hS hS ha hb i;have:=Tp _ (eU a (b.take i)) i b[i] hp2 (by omega) (by have:=hpv.length;omega) (hpv.bd.mono (by omega)) (by have:=hb.bd _ (List.getElem_mem h);omega);refine .inl ⟨i+1,?_,by omega,by omega⟩;have e1:b.take (i+1)=b.take i++[b[i]]:=by rw[List.take_add_one,hp];rfl
    rw[e1,oV];exact this
   ·obtain rfl:i=b.length:=by omega
    refine .inr ⟨_,Ex.of (n:=60) ?_,?_,rfl⟩
    ·rw[List.take_length,Ir hS hS ha hb];unfold QR;rw[<-hlen];generalize (b.map fun p=>qC p.1 p.2)=es,aR (fQ a b)=x at*;simp -implicitDefEqProofs[adL,f49]
    ·simp) 0 (Nat.zero_le _)
 simpa[eU] using h1
theorem Iu {S:Nat}(hS:1<=S)(hS2:S<=1000){a b:List aW}(ha:PV S a)(hb:PV S b):Ca E1 49 [.d (aR a),.d (aR b)] (.d (aR (fQ a b)),none):=by
 obtain⟨_,h1,rfl⟩:=oU ha hS2;obtain⟨_,h2,rfl⟩:=oU hb hS2;obtain⟨N,hN,t1,t2⟩:=(h1.j h2.any).at 0;have hl:=Xy hS (by omega) ha hb;have hA:Ex E1 f49.body.l (st0 [.d (aR a),.d (aR b),.u,.u,.u,.u] []) (.norm,(st0 [.d (aR a),.d (aR b),.u,.u,.u,.u] [])):=by
  refine Ex.of (n:=60) ?_;generalize aR a=x;generalize aR b=y;simp -implicitDefEqProofs[f49]
 have hB:Ex E1 f49.body.r.l (st0 [.d (aR a),.d (aR b),.u,.u,.u,.u] []) (.norm,(st0 [.u,.d (aR b),.u,.d (aR a),.u,.u] [])):=by
  refine Ex.of (n:=N+60) ?_;unfold aR at*;generalize (a.map fun p=>qC p.1 p.2)=x,(b.map fun p=>qC p.1 p.2)=y at*;simp -implicitDefEqProofs[f49,t1,t2]
 have hC:Ex E1 f49.body.r.r.l.l (st0 [.u,.d (aR b),.u,.d (aR a),.u,.u] []) (.norm,QR (b.map fun p=>qC p.1 p.2) (aR a) 0 .u):=by
  refine Ex.of (n:=60) ?_;unfold QR aR;simp -implicitDefEqProofs[f49]
 have hD:Ex E1 f49.body.r.r.r (QR (b.map fun p=>qC p.1 p.2) (aR (fQ a b)) b.length (.d (.v (.bool false)))) (.ret,(st0 [.u,.u,.d (aR (fQ a b)),.u,.u,.u] [])):=by
  refine Ex.of (n:=60) ?_;unfold QR aR;generalize ((fQ a b).map fun p=>qC p.1 p.2)=x,(b.map fun p=>qC p.1 p.2)=y at*;simp -implicitDefEqProofs[f49]
 refine Ca.body (o:=.ret) rfl (k49:E1.fn _=_) rfl ?_ (by intro id h;cases h) (st1:=(st0 [.u,.u,.d (aR (fQ a b)),.u,.u,.u] [])) ?_
 ·show Ex E1 (.seq f49.body.l (.seq f49.body.r.l (.seq (.seq f49.body.r.r.l.l (.block 0 (.loop adL))) f49.body.r.r.r))) _ _;exact hA.seq (hB.seq ((hC.seq hl.block).seq hD))
 ·unfold aR;generalize ((fQ a b).map fun p=>qC p.1 p.2)=x at*;simp -implicitDefEqProofs[f49]
def Ep:aH:=f58.body.r.r.r.l.r.bl.lp
def Bv:aH:=Ep.r.l.bl
def J3:aH:=Bv.r.bl.lp
def Bw:aH:=J3.r.l.bl
def xmE:aH:=Bw.r.l.r.bl.lp
def mq (xa xb:List D)(acc:D)(i k:Nat)(v5 v6 v7 t9 t10:FV)(L:List ae):St :=
 (st0 [.d (.s 6 xa),.d (.s 6 xb),.u,.d acc,.d (.v (.int .i64 i)),v5,v6,v7,.u,t9,t10] L)
theorem Xz (xa xb:List D)(acc:D)(i k:Nat)(L:List ae)(p q:aW)(y:Rat)(hi:xa[i]?=some (qC p.1 p.2))(hk:xb[k]?=some (qC q.1 q.2))(hn:xa.length<=1000000)(hn2:xb.length<=1000000)(hp:bP p.1=true)(hq:bP q.1=true) :
  Ex E1 Bw.r.l (mq xa xb acc i 0 (.d (.v (.int .i64 k))) (.r (.loc L.length) 0) .u .u .u (L++[mO ((0,0,0),y)]))
   (.norm,mq xa xb acc i 0 (.d (.v (.int .i64 k))) (.r (.loc L.length) 0) (.d (.v (.int .i64 3))) .u (.d (.v (.bool false))) (L++[mO (f_ p.1 q.1,y)])):=by
 have h1:=eQ hp;have h2:=eQ hq;have hil:i<xa.length:=(bH hi)
 have hkl:k<xb.length:=(bH hk)
 have hi0:(0:Int)<=(i:Int):=by omega
 have hk0:(0:Int)<=(k:Int):=by omega
 obtain⟨⟨a,b,c⟩,x⟩:=p;obtain⟨⟨a',b',c'⟩,x'⟩:=q;simp only at h1 h2;have w1:ah .i64 (a+a')=a+a':=wrap_i64 (by omega);have w2:ah .i64 (b+b')=b+b':=wrap_i64 (by omega);have w3:ah .i64 (c+c')=c+c':=wrap_i64 (by omega);have u1:ah .i64 1=1:=wrap_i64 (by omega);have u2:ah .i64 2=2:=wrap_i64 (by omega);have u3:ah .i64 3=3:=wrap_i64 (by omega);have g6:∀ o,(L++[o])[L.length]?=some o:=fun o=>by simp
 have gs:∀ o o',(L++[o]).set L.length o'=L++[o']:=fun o o'=>by rw[List.set_append_right _ _ (Nat.le_refl _)];simp
 refine Ex.of (n:=200) ?_;unfold mq;simp only[mO,qC,zC,f_,LD]at*;generalize qs x=s,LL (qn x)=ns,LL (qd x)=ds at*;generalize qs x'=s',LL (qn x')=ns',LL (qd x')=ds',qs y=s'',LL (qn y)=aaG,LL (qd y)=ds'' at*;have i1:=idx hi;have i2:=idx hk;simp -implicitDefEqProofs[Bw,xmE,J3,Bv,Ep,f58,aC,w1,w2,w3,u1,u2,u3,hi,hk,i1,i2,hi0,hk0,hil,hkl,g6,gs]
def Acc (d:D)(l:List aW):Prop:=d=aR l\/(d=.n 6/\l=[])
theorem Tq (xa xb:List D)(i k:Nat)(acc:D)(L:List ae)(l:List aW)(hacc:Acc acc l)(p q:aW)(hi:xa[i]?=some (qC p.1 p.2))(hk:xb[k]?=some (qC q.1 q.2))(hn:xa.length<=1000000)(hn2:xb.length<=1000000)
  (hp:bP p.1=true) (hq:bP q.1=true) (sp:qz p.2<=20000) (sq:qz q.2<=20000) (hl:Bd 50000 l) (hll:l.length<=1000000) :
  ∃ L',Ex E1 J3 (mq xa xb acc i 0 (.d (.v (.int .i64 k))) .u .u .u .u L) (.norm,mq xa xb (aR (lI l (f_ p.1 q.1) (p.2*q.2))) i 0 (.d (.v (.int .i64 (k+1:Nat)))) .u .u .u .u L'):=by
 have hil:i<xa.length:=(bH hi)
 have hkl:k<xb.length:=(bH hk)
 have bD:ah .i64 ((k:Int)+1)=(k:Int)+1:=wrap_i64 (by omega);have hk1:((k+1:Nat):Int)=(k:Int)+1:=by omega
 have hi0:(0:Int)<=(i:Int):=by omega
 have hk0:(0:Int)<=(k:Int):=by omega
 have hkc:(k:Int)<(xb.length:Int):=by omega
 have hz:=AL p.2 q.2;refine⟨L++[mO (f_ p.1 q.1,p.2*q.2)],?_⟩;have hA1:Ex E1 J3.l (mq xa xb acc i 0 (.d (.v (.int .i64 k))) .u .u .u .u L) (.norm,mq xa xb acc i 0 (.d (.v (.int .i64 k))) .u .u (.d (.v (.bool true))) .u L):=by
  refine Ex.of (n:=60) ?_;unfold mq;simp -implicitDefEqProofs[J3,Bv,Ep,f58,hkc]
 have hB:Ex E1 Bw.l (mq xa xb acc i 0 (.d (.v (.int .i64 k))) .u .u (.d (.v (.bool true))) .u L) (.norm,mq xa xb acc i 0 (.d (.v (.int .i64 k))) (.r (.loc L.length) 0) .u .u .u (L++[mO ((0,0,0),p.2*q.2)])):=by
  obtain⟨N,t⟩:=(Ca.fG (FH p.2 q.2 (by omega) (by omega))).get;refine Ex.of (n:=N+100) ?_;unfold mq;generalize p.2*q.2=y at*;obtain⟨⟨a,b,c⟩,x⟩:=p;obtain⟨⟨a',b',c'⟩,x'⟩:=q;simp only[mO,qC,zC,qD,raw,LD]at*;generalize qs x=s,LL (qn x)=ns,LL (qd x)=ds at*;generalize qs x'=s',LL (qn x')=ns',LL (qd x')=ds',qs y=s'',LL (qn y)=aaG,LL (qd y)=ds'' at*;have i1:=idx hi;have i2:=idx hk;simp -implicitDefEqProofs[Bw,J3,Bv,Ep,f58,t,hi,hk,i1,i2,hi0,hk0,hil,hkl]
 have hE:=Xz xa xb acc i k L p q (p.2*q.2) hi hk hn hn2 hp hq;have hZ:Ex E1 Bw.r.r (mq xa xb acc i 0 (.d (.v (.int .i64 k))) (.r (.loc L.length) 0) (.d (.v (.int .i64 3))) .u (.d (.v (.bool false))) (L++[mO (f_ p.1 q.1,p.2*q.2)]))
   (.norm,mq xa xb (aR (lI l (f_ p.1 q.1) (p.2*q.2))) i 0 (.d (.v (.int .i64 k))) .u .u .u .u (L++[mO (f_ p.1 q.1,p.2*q.2)])):=by
  obtain⟨N,t⟩:=(K6 l (f_ p.1 q.1) (p.2*q.2) hll hl (by omega)).get;have g6:∀ o,(L++[o])[L.length]?=some o:=fun o=>by simp
  refine Ex.of (n:=N+100) ?_;clear hA1 hB hE;have hacc':(acc=aR l)\/(acc=.n 6/\aR l=.s 6 []):=by
   rcases hacc with h|⟨h,h'⟩
   ·exact .inl h
   ·exact .inr ⟨h,by rw[h'];rfl⟩
  unfold mq aR at*;generalize ((lI l (f_ p.1 q.1) (p.2*q.2)).map fun p=>qC p.1 p.2)=y',(l.map fun p=>qC p.1 p.2)=z at*;generalize f_ p.1 q.1=e,p.2*q.2=y at*;simp only[mO,qC,zC,LD]at*;generalize qs y=s'',LL (qn y)=aaG,LL (qd y)=ds'' at*;rcases hacc' with rfl|⟨rfl,h2⟩
  ·simp -implicitDefEqProofs[Bw,J3,Bv,Ep,f58,t,g6]
  ·cases h2;simp -implicitDefEqProofs[Bw,J3,Bv,Ep,f58,t,g6]
 have hF:Ex E1 J3.r.r (mq xa xb (aR (lI l (f_ p.1 q.1) (p.2*q.2))) i 0 (.d (.v (.int .i64 k))) .u .u .u .u (L++[mO (f_ p.1 q.1,p.2*q.2)]))
   (.norm,mq xa xb (aR (lI l (f_ p.1 q.1) (p.2*q.2))) i 0 (.d (.v (.int .i64 (k+1:Nat)))) .u .u .u .u (L++[mO (f_ p.1 q.1,p.2*q.2)])):=by
  refine Ex.of (n:=60) ?_;unfold mq;rw[hk1];generalize aR (lI l (f_ p.1 q.1) (p.2*q.2))=z;simp -implicitDefEqProofs[J3,Bv,Ep,f58,bD]
 show Ex E1 (.seq J3.l (.seq (.block 3 (.seq Bw.l (.seq Bw.r.l Bw.r.r))) J3.r.r)) _ _;exact hA1.seq (((hB.seq (hE.seq hZ)).h_).seq hF)
def bQ (p:aW)(b:List aW):List aW:=b.map fun q=>(f_ p.1 q.1,p.2*q.2)
def bB (a b:List aW):List aW:=a.flatMap fun p=>bQ p b
theorem K8 (a b:List aW)(p:aW):bB (a++[p]) b=bB a b++bQ p b:=by simp[bB,List.flatMap_append]
theorem FO (a b:List aW):(bB a b).length=a.length*b.length:=by
 induction a with
 | nil=>simp[bB]
 | cons p r ih =>
  have h1:bB (p::r) b=bQ p b++bB r b:=by simp[bB]
  rw[h1,List.length_append,ih,List.length_cons,Nat.add_mul];simp[bQ];omega
theorem lJ (a b:List aW):((bB a b).filter fun p=>bP p.1)=gm a b:=by
 unfold bB gm;rw[List.filter_flatMap];rfl
theorem Iw {S:Nat}{p:aW}{b:List aW}(hp:qz p.2<=S)(hb:Bd S b):Bd (2*S) (bQ p b):=by
 intro x hx;obtain⟨q,hq,rfl⟩:=List.mem_map.1 hx;have:=AL p.2 q.2;have:=hb q hq;show qz (p.2*q.2)<=_;omega
theorem Iy {S:Nat}{a b:List aW}(ha:Bd S a)(hb:Bd S b):Bd (2*S) (bB a b):=by
 intro x hx;obtain⟨p,hp,hx⟩:=List.mem_flatMap.1 hx;exact Iw (ha p hp) hb x hx
theorem Er {T:Nat}(hT:1<=T):∀ {l:List aW},Bd T l->∀ e,qz (tot l e)<=l.length*(T+1)+1
 | [],_,e=>by
  have:=jA;simp only[tot,List.length_nil];omega
 | p::l,h,e=>by
  have h1:=Er hT (l:=l) (fun x hx=>h x (List.mem_cons_of_mem _ hx)) e;have h2:=h p (List.mem_cons_self ..);obtain⟨a,y⟩:=p;have h3:=oH (if a=e then y else 0) (tot l e);have h4:qz (if a=e then y else 0)<=T:=by
   split
   ·exact h2
   ·exact Nat.le_trans jA (by omega)
  simp only[tot,List.length_cons,Nat.add_mul];omega
theorem Es {T N:Nat}(hT:1<=T){ms:List aW}(hb:Bd T ms)(hn:ms.length<=N):PV (N*(T+1)+1) (eU [] ms):=by
 refine Iq (S:=1) (T:=T) (PV.nil 1) (by omega) (by omega) hb (fun k e => ?_);have h1:tot [] e+tot ((ms.take k).filter fun p=>bP p.1) e=tot ((ms.take k).filter fun p=>bP p.1) e:=by simp only[tot];grind
 rw[h1];have h2:=Er hT (l:=(ms.take k).filter fun p=>bP p.1) (fun p hp=>hb p (List.mem_of_mem_take (List.mem_filter.1 hp).1)) e;have h3:((ms.take k).filter fun p=>bP p.1).length<=N:=Nat.le_trans (List.length_filter_le _ _) (by rw[List.length_take];omega);exact Nat.le_trans h2 (Nat.add_le_add_right (Nat.mul_le_mul_right _ h3) 1)
theorem Iz {S:Nat}(hS:1<=S){a b:List aW}(ha:PV S a)(hb:PV S b):eU [] (bB a b)=iA a b:=by
 refine PV.ext (Es (T:=2*S) (by omega) (Iy ha.bd hb.bd) (Nat.le_refl _)) (gT hS ha hb) (fun e => ?_);rw[xP,lJ,vT];simp only[tot];grind
theorem XA {S:Nat}(hS:1<=S)(hS2:S<=1000)(xa:List D)(b pre:List aW)(i:Nat)(acc:D)(hacc:Acc acc (eU [] pre))(L:List ae)(p:aW)(hi:xa[i]?=some (qC p.1 p.2))(hn:xa.length<=1000000)(hp:bP p.1=true)(sp:qz p.2<=S)(hb:PV S b)
  (hpre:Bd (2*S) pre) (hm:(pre.length+b.length)*(2*S+1)<=40000) :
  ∃ acc' L',Acc acc' (eU [] (pre++bQ p b))/\Ex E1 (.loop J3) (mq xa (b.map fun p=>qC p.1 p.2) acc i 0 (.d (.v (.int .i64 0))) .u .u .u .u L)
   (.exit 2,mq xa (b.map fun p=>qC p.1 p.2) acc' i 0 (.d (.v (.int .i64 b.length))) .u .u (.d (.v (.bool false))) .u L'):=by
 have hlen:(b.map fun p=>qC p.1 p.2).length=b.length:=by simp
 have lb:=hb.length;obtain⟨r,h1,acc',L',rfl,h2⟩:=Ex.inv (E:=E1) (b:=J3) (α:=Nat × D × List ae) (S:=fun x=>mq xa (b.map fun p=>qC p.1 p.2) x.2.1 i 0 (.d (.v (.int .i64 x.1))) .u .u .u .u x.2.2) (fun x=>b.length-x.1) (fun x=>x.1<=b.length/\Acc x.2.1 (eU [] (pre++bQ p (b.take x.1))))
  (fun r=>∃ acc' L',r=(.exit 2,mq xa (b.map fun p=>qC p.1 p.2) acc' i 0 (.d (.v (.int .i64 b.length))) .u .u (.d (.v (.bool false))) .u L')/\Acc acc' (eU [] (pre++bQ p b))) (by
   rintro⟨k,acc,L⟩ ⟨hk,ha⟩;simp only at hk ha
   by_cases h:k<b.length
   ·have hpk:b[k]?=some b[k]:=List.getElem?_eq_getElem h;have hp2:(b.map fun p=>qC p.1 p.2)[k]?=some (qC b[k].1 b[k].2):=by rw[List.getElem?_map,hpk];rfl
    have hmem:=List.getElem_mem h;have hpv:PV 40001 (eU [] (pre++bQ p (b.take k))):=by
     refine(Es (T:=2*S) (N:=pre.length+b.length) (by omega) (fun x hx => ?_) (by simp[bQ];omega)).mono (by omega);rcases List.mem_append.1 hx with hx|hx
     ·exact hpre x hx
     ·exact Iw sp (fun y hy=>hb.bd y (List.mem_of_mem_take hy)) x hx
    have hsq:=hb.bd _ hmem;obtain⟨L',g⟩:=Tq xa _ i k acc L (eU [] (pre++bQ p (b.take k))) ha p b[k] hi hp2 hn (by omega) hp (hb.fits _ hmem) (by omega) (by omega) (hpv.bd.mono (by omega)) (by have:=hpv.length;omega);have e1:bQ p (b.take (k+1))=bQ p (b.take k)++[(f_ p.1 b[k].1,p.2*b[k].2)]:=by
     rw[List.take_add_one,hpk];unfold bQ;rw[List.map_append];rfl
    refine .inl ⟨(k+1,aR (lI (eU [] (pre++bQ p (b.take k))) (f_ p.1 b[k].1) (p.2*b[k].2)),L'),g,by show b.length-(k+1)<b.length-k;omega,by show k+1<=_;omega,.inl ?_⟩;show _=aR (eU [] (pre++bQ p (b.take (k+1))));rw[e1,<-List.append_assoc,oV]
   ·obtain rfl:k=b.length:=by omega
    rw[List.take_length]at ha;refine .inr ⟨_,Ex.of (n:=60) ?_,?_,acc,L,rfl,ha⟩
    ·unfold mq;rw[<-hlen];generalize (b.map fun p=>qC p.1 p.2)=es at*;simp -implicitDefEqProofs[J3,Bv,Ep,f58]
    ·simp) (0,acc,L) ⟨Nat.zero_le _,by simpa[bQ] using hacc⟩
 exact⟨acc',L',h2,h1⟩
theorem Tt {S:Nat}(hS:1<=S)(hS2:S<=1000)(a b pre:List aW)(i:Nat)(acc:D)(hacc:Acc acc (eU [] pre))(L:List ae)(p:aW)(hi:a[i]?=some p)(hn:a.length<=1000000)(hp:bP p.1=true)(sp:qz p.2<=S)(hb:PV S b)
  (hpre:Bd (2*S) pre) (hm:(pre.length+b.length)*(2*S+1)<=40000) :
  ∃ acc' L',Acc acc' (eU [] (pre++bQ p b))/\Ex E1 Ep (mq (a.map fun p=>qC p.1 p.2) (b.map fun p=>qC p.1 p.2) acc i 0 .u .u .u .u .u L)
   (.norm,mq (a.map fun p=>qC p.1 p.2) (b.map fun p=>qC p.1 p.2) acc' (i+1) 0 .u .u .u .u .u L'):=by
 have hlen:(a.map fun p=>qC p.1 p.2).length=a.length:=by simp
 have hil:i<a.length:=(bH hi)
 have hi2:(a.map fun p=>qC p.1 p.2)[i]?=some (qC p.1 p.2):=by rw[List.getElem?_map,hi];rfl
 have bD:ah .i64 ((i:Int)+1)=(i:Int)+1:=wrap_i64 (by omega);have hk1:((i+1:Nat):Int)=(i:Int)+1:=by omega
 have hkc:(i:Int)<((a.map fun p=>qC p.1 p.2).length:Int):=by rw[hlen];omega
 obtain⟨acc',L',hac,hl⟩:=XA hS hS2 _ b pre i acc hacc L p hi2 (by rw[hlen];exact hn) hp sp hb hpre hm;refine⟨acc',L',hac,?_⟩;have hA:Ex E1 Ep.l (mq (a.map fun p=>qC p.1 p.2) (b.map fun p=>qC p.1 p.2) acc i 0 .u .u .u .u .u L)
   (.norm,{mq (a.map fun p=>qC p.1 p.2) (b.map fun p=>qC p.1 p.2) acc i 0 .u .u .u .u .u L with vars:=(mq (a.map fun p=>qC p.1 p.2) (b.map fun p=>qC p.1 p.2) acc i 0 .u .u .u .u .u L).vars.set 8 (.d (.v (.bool true)))}):=by
  refine Ex.of (n:=60) ?_;unfold mq;generalize (a.map fun p=>qC p.1 p.2)=x at*;simp -implicitDefEqProofs[Ep,f58,hkc]
 have hB:Ex E1 Bv.l {mq (a.map fun p=>qC p.1 p.2) (b.map fun p=>qC p.1 p.2) acc i 0 .u .u .u .u .u L with vars:=(mq (a.map fun p=>qC p.1 p.2) (b.map fun p=>qC p.1 p.2) acc i 0 .u .u .u .u .u L).vars.set 8 (.d (.v (.bool true)))}
   (.norm,mq (a.map fun p=>qC p.1 p.2) (b.map fun p=>qC p.1 p.2) acc i 0 (.d (.v (.int .i64 0))) .u .u .u .u L):=by
  refine Ex.of (n:=60) ?_;unfold mq;generalize (a.map fun p=>qC p.1 p.2)=x,(b.map fun p=>qC p.1 p.2)=y at*;simp -implicitDefEqProofs[Bv,Ep,f58]
 have hF:Ex E1 Ep.r.r (mq (a.map fun p=>qC p.1 p.2) (b.map fun p=>qC p.1 p.2) acc' i 0 (.d (.v (.int .i64 b.length))) .u .u (.d (.v (.bool false))) .u L')
   (.norm,mq (a.map fun p=>qC p.1 p.2) (b.map fun p=>qC p.1 p.2) acc' (i+1) 0 .u .u .u .u .u L'):=by
  refine Ex.of (n:=60) ?_;unfold mq;rw[hk1];generalize (a.map fun p=>qC p.1 p.2)=x,(b.map fun p=>qC p.1 p.2)=y at*;simp -implicitDefEqProofs[Ep,f58,bD]
 show Ex E1 (.seq Ep.l (.seq (.block 1 (.seq Bv.l (.block 2 (.loop J3)))) Ep.r.r)) _ _;exact hA.seq (((hB.seq hl.block).h_).seq hF)
theorem XB {S:Nat}(hS:1<=S)(hS2:S<=1000){a b:List aW}(ha:PV S a)(hb:PV S b)(hm:(a.length*b.length+b.length)*(2*S+1)<=40000) :
  ∃ acc L',Acc acc (iA a b)/\Ex E1 (.loop Ep) (mq (a.map fun p=>qC p.1 p.2) (b.map fun p=>qC p.1 p.2) (.n 6) 0 0 .u .u .u .u .u [])
   (.exit 0,{mq (a.map fun p=>qC p.1 p.2) (b.map fun p=>qC p.1 p.2) acc a.length 0 .u .u .u .u .u L' with vars:=(mq (a.map fun p=>qC p.1 p.2) (b.map fun p=>qC p.1 p.2) acc a.length 0 .u .u .u .u .u L').vars.set 8 (.d (.v (.bool false)))}):=by
 have hlen:(a.map fun p=>qC p.1 p.2).length=a.length:=by simp
 have la:=ha.length;obtain⟨r,h1,acc,L',rfl,h2⟩:=Ex.inv (E:=E1) (b:=Ep) (α:=Nat × D × List ae) (S:=fun x=>mq (a.map fun p=>qC p.1 p.2) (b.map fun p=>qC p.1 p.2) x.2.1 x.1 0 .u .u .u .u .u x.2.2) (fun x=>a.length-x.1) (fun x=>x.1<=a.length/\Acc x.2.1 (eU [] (bB (a.take x.1) b)))
  (fun r=>∃ acc L',r=(.exit 0,{mq (a.map fun p=>qC p.1 p.2) (b.map fun p=>qC p.1 p.2) acc a.length 0 .u .u .u .u .u L' with vars:=(mq (a.map fun p=>qC p.1 p.2) (b.map fun p=>qC p.1 p.2) acc a.length 0 .u .u .u .u .u L').vars.set 8 (.d (.v (.bool false)))})/\Acc acc (iA a b)) (by
   rintro⟨i,acc,L⟩ ⟨hi,hac⟩;simp only at hi hac
   by_cases h:i<a.length
   ·have hpk:a[i]?=some a[i]:=List.getElem?_eq_getElem h;have hmem:=List.getElem_mem h;obtain⟨acc',L',agk,g⟩:=Tt hS hS2 a b (bB (a.take i) b) i acc hac L a[i] hpk (by omega) (ha.fits _ hmem) (ha.bd _ hmem) hb (Iy (fun x hx=>ha.bd x (List.mem_of_mem_take hx)) hb.bd) (by
     refine Nat.le_trans (Nat.mul_le_mul_right _ ?_) hm;rw[FO,List.length_take,Nat.min_eq_left (by omega)];exact Nat.add_le_add_right (Nat.mul_le_mul_right _ (by omega)) _)
    have e1:bB (a.take (i+1)) b=bB (a.take i) b++bQ a[i] b:=by
     rw[List.take_add_one,hpk];exact K8 _ _ _
    refine .inl ⟨(i+1,acc',L'),g,by show a.length-(i+1)<a.length-i;omega,by show i+1<=_;omega,?_⟩;show Acc acc' (eU [] (bB (a.take (i+1)) b));rw[e1];exact agk
   ·obtain rfl:i=a.length:=by omega
    rw[List.take_length,Iz hS ha hb]at hac;refine .inr ⟨_,Ex.of (n:=60) ?_,?_,acc,L,rfl,hac⟩
    ·unfold mq;rw[<-hlen];generalize (a.map fun p=>qC p.1 p.2)=x,(b.map fun p=>qC p.1 p.2)=y at*;simp -implicitDefEqProofs[Ep,f58]
    ·simp) (0,.n 6,[]) ⟨Nat.zero_le _,.inr ⟨rfl,rfl⟩⟩
 exact⟨acc,L',h2,h1⟩
theorem IA {S:Nat}(hS:1<=S)(hS2:S<=1000){a b:List aW}(ha:PV S a)(hb:PV S b)(hm:(a.length*b.length+b.length)*(2*S+1)<=40000):Ca E1 58 [.d (aR a),.d (aR b)] (.d (aR (iA a b)),none):=by
 obtain⟨_,h1,rfl⟩:=oU ha hS2;obtain⟨_,h2,rfl⟩:=oU hb hS2;obtain⟨N,hN,t1,t2⟩:=(h1.j h2.any).at 0;obtain⟨acc,L',hac,hl⟩:=XB hS hS2 ha hb hm;have hA:Ex E1 f58.body.l (st0 [.d (aR a),.d (aR b),.u,.u,.u,.u,.u,.u,.u,.u,.u] []) (.norm,(st0 [.d (aR a),.d (aR b),.u,.u,.u,.u,.u,.u,.u,.u,.u] [])):=by
  refine Ex.of (n:=60) ?_;generalize aR a=x;generalize aR b=y;simp -implicitDefEqProofs[f58]
 have hB:Ex E1 f58.body.r.l (st0 [.d (aR a),.d (aR b),.u,.u,.u,.u,.u,.u,.u,.u,.u] []) (.norm,(st0 [.d (aR a),.d (aR b),.u,.u,.u,.u,.u,.u,.u,.u,.u] [])):=by
  refine Ex.of (n:=N+60) ?_;unfold aR at*;generalize (a.map fun p=>qC p.1 p.2)=x,(b.map fun p=>qC p.1 p.2)=y at*;simp -implicitDefEqProofs[f58,t1,t2]
 have hC:Ex E1 f58.body.r.r.l (st0 [.d (aR a),.d (aR b),.u,.u,.u,.u,.u,.u,.u,.u,.u] []) (.norm,(st0 [.d (aR a),.d (aR b),.u,.d (.n 6),.u,.u,.u,.u,.u,.u,.u] [])):=by
  refine Ex.of (n:=60) ?_;generalize aR a=x;generalize aR b=y;simp -implicitDefEqProofs[f58]
 have hD:Ex E1 f58.body.r.r.r.l.l (st0 [.d (aR a),.d (aR b),.u,.d (.n 6),.u,.u,.u,.u,.u,.u,.u] []) (.norm,mq (a.map fun p=>qC p.1 p.2) (b.map fun p=>qC p.1 p.2) (.n 6) 0 0 .u .u .u .u .u []):=by
  refine Ex.of (n:=60) ?_;unfold mq aR;generalize (a.map fun p=>qC p.1 p.2)=x,(b.map fun p=>qC p.1 p.2)=y at*;simp -implicitDefEqProofs[f58]
 have hE:Ex E1 f58.body.r.r.r.r {mq (a.map fun p=>qC p.1 p.2) (b.map fun p=>qC p.1 p.2) acc a.length 0 .u .u .u .u .u L' with vars:=(mq (a.map fun p=>qC p.1 p.2) (b.map fun p=>qC p.1 p.2) acc a.length 0 .u .u .u .u .u L').vars.set 8 (.d (.v (.bool false)))}
   (.ret,(st0 [.u,.u,.d acc,.u,.u,.u,.u,.u,.u,.u,.u] (L'))):=by
  refine Ex.of (n:=60) ?_;unfold mq;generalize (a.map fun p=>qC p.1 p.2)=x,(b.map fun p=>qC p.1 p.2)=y at*;simp -implicitDefEqProofs[f58]
 refine Ca.body (o:=.ret) rfl (k58:E1.fn _=_) rfl ?_ (by intro id h;cases h) (st1:=(st0 [.u,.u,.d acc,.u,.u,.u,.u,.u,.u,.u,.u] (L'))) ?_
 ·show Ex E1 (.seq f58.body.l (.seq f58.body.r.l (.seq f58.body.r.r.l (.seq (.seq f58.body.r.r.r.l.l (.block 0 (.loop Ep))) f58.body.r.r.r.r)))) _ _;exact hA.seq (hB.seq (hC.seq ((hD.seq hl.block).seq hE)))
 ·rcases hac with rfl|⟨rfl,h⟩
  ·unfold aR;generalize ((iA a b).map fun p=>qC p.1 p.2)=x at*;simp -implicitDefEqProofs[f58]
  ·rw[h];simp -implicitDefEqProofs[f58,aR]
def bV (x:Rat):List aW:=if x=0 then [] else [((0,0,0),x)]
theorem Tu (x:Rat):lI [] (0,0,0) x=bV x:=by
 unfold lI bV nR;have h:bP (0,0,0)=true:=by decide
 by_cases hx:x=0
 ·rw[if_pos hx,if_neg (fun h=>h.2 hx)]
 ·rw[if_neg hx,if_pos ⟨h,hx⟩]
theorem jX {S:Nat}{x:Rat}(h:qz x<=S):PV S (bV x):=by
 unfold bV;split
 ·exact PV.nil S
 ·rename_i hx;refine⟨List.pairwise_cons.2 ⟨fun _ h=>(by cases h),List.Pairwise.nil⟩,fun p hp => ?_,fun p hp => ?_,fun p hp => ?_⟩<;>(rw[List.mem_singleton]at hp;subst hp)
  ·exact hx
  ·exact(by decide:bP (0,0,0)=true)
  ·exact h
theorem Et (x:Rat)(hx:qz x<=50000):Ca E1 48 [.d (qD x)] (.d (aR (bV x)),none):=by
 obtain⟨N1,t1⟩:=(Ca.fG (il x (by omega))).any;have hp:=K6 [] (0,0,0) x (by simp) (fun p hp=>by cases hp) hx;rw[Tu]at hp;obtain⟨N2,t2⟩:=hp.any;obtain⟨N,hN⟩:∃ N,N=N1+N2:=⟨_,rfl⟩
 replace t1:=t1 N (by omega);replace t2:=t2 N (by omega);refine Ca.bO (n:=N+100) ?_;rw[ak rfl (k48:E1.fn _=_) rfl];unfold aR at*;generalize ((bV x).map fun p=>qC p.1 p.2)=es at*;simp only[qC,zC,qD,raw,LD,List.map_nil]at*;generalize qs x=s,LL (qn x)=ns,LL (qd x)=ds at*;simp -implicitDefEqProofs[f48,t1,t2]
theorem O5 {S:Nat}(hS:1<=S)(hS2:S<=1000){a:List aW}(ha:PV S a)(x:Rat)(hx:qz x<=S)(hm:(a.length+1)*(2*S+1)<=40000):Ca E1 50 [.d (aR a),.d (qD x)] (.d (aR (iA a (bV x))),none):=by
 have hc:=jX hx;have hl:(bV x).length<=1:=by unfold bV;split<;>simp
 obtain⟨N1,t1⟩:=(Et x (by omega)).any;obtain⟨N2,t2⟩:=(IA hS hS2 ha hc (by
  refine Nat.le_trans (Nat.mul_le_mul_right _ ?_) hm;have:=Nat.mul_le_mul_left a.length hl;omega)).any
 obtain⟨N,hN⟩:∃ N,N=N1+N2:=⟨_,rfl⟩
 replace t1:=t1 N (by omega);replace t2:=t2 N (by omega);refine Ca.bO (n:=N+100) ?_;rw[ak rfl (k50:E1.fn _=_) rfl];unfold aR at*;generalize ((bV x).map fun p=>qC p.1 p.2)=es,((iA a (bV x)).map fun p=>qC p.1 p.2)=es2,(a.map fun p=>qC p.1 p.2)=es3 at*;simp only[qD,raw,LD]at*;generalize qs x=s,LL (qn x)=ns,LL (qd x)=ds at*;simp -implicitDefEqProofs[f50,t1,t2]
def gN (i:Nat):fE:=if i=0 then(1,0,0) else if i=1 then(0,1,0) else(0,0,1)
theorem O6 (i:Nat)(hi:i<3):Ca E1 51 [.d (.v (.int .i64 i))] (.d (aR [(gN i,1)]),none):=by
 have h1:=Ca.fG (AY 1 1 (by decide) (by decide) (by decide));have e1:qH 1 1=1:=by decide +kernel
 rw[e1]at h1;obtain⟨N,t⟩:=h1.get;have hi0:¬ (i:Int)<0:=by omega
 have hi3:¬ (3:Int)<=(i:Int):=by omega
 have ai':¬ (i:Int) ≥ 3:=by omega
 refine Ca.bO (n:=N+100) ?_;rw[ak rfl (k51:E1.fn _=_) rfl];have hp:aR [(gN i,1)]=.s 6 [qC (gN i) 1]:=rfl;rw[hp]
 match i,hi with
 | 0,_ =>
  simp only[gN,if_true,qC,zC,qD,raw,LD]at*;generalize qs 1=s,LL (qn 1)=ns,LL (qd 1)=ds at*;simp -implicitDefEqProofs[f51,t]
 | 1,_ =>
  simp only[gN,qC,zC,qD,raw,LD]at*;generalize qs 1=s,LL (qn 1)=ns,LL (qd 1)=ds at*;simp -implicitDefEqProofs[f51,t]
 | 2,_ =>
  simp only[gN,qC,zC,qD,raw,LD]at*;generalize qs 1=s,LL (qn 1)=ns,LL (qd 1)=ds at*;simp -implicitDefEqProofs[f51,t]
theorem Tv (v n:Int)(hn:0<n):(v.tmod n<0->v.tmod n+n=v % n)/\(¬ v.tmod n<0->v.tmod n=v % n):=by
 have h:=Int.tmod_eq_emod (a:=v) (b:=n);have h1:=Int.emod_nonneg v (show n≠0 by omega);have h2:=Int.emod_lt_of_pos v hn;have h3:(n.natAbs:Int)=n:=by omega
 constructor
 ·intro hlt;rw[h]at hlt ⊢;split at hlt
  ·omega
  ·rename_i hh;rw[if_neg hh];omega
 ·intro hlt;rw[h]at hlt ⊢;split at hlt
  ·rename_i hh;rw[if_pos hh];omega
  ·rename_i hh;rw[if_neg hh];exfalso;have:v % n≠0:=fun h0=>hh (.inr (Int.dvd_of_emod_eq_zero h0))
   omega
theorem iN (v n:Int)(hv:fu v)(hn:0<n)(hn2:n<=1000000):Ca E0 46 [.d (.v (.int .i64 v)),.d (.v (.int .i64 n))] (.d (.v (.int .i64 (v % n))),none):=by
 obtain⟨f1,f2⟩:=Tv v n hn;have h1:=Int.emod_nonneg v (show n≠0 by omega);have h2:=Int.emod_lt_of_pos v hn;have n0:n≠0:=by omega
 have n1:n≠-1:=by omega
 have n0':(n==0)=false:=by simpa using n0
 refine Ca.bO (n:=60) ?_;rw[ak rfl (k46:E0.fn _=_) rfl]
 by_cases h:v.tmod n<0
 ·have h3:=f1 h;have w0:ah .i64 (v.tmod n)=v.tmod n:=wrap_i64 (by omega);have w1:ah .i64 (v.tmod n+n)=v % n:=by rw[h3];exact wrap_i64 (by omega)
  clear f1 f2 h3 h1 h2;simp -implicitDefEqProofs[f46,n0,n0',w0,w1,h]
 ·have h3:=f2 h;have w0:ah .i64 (v.tmod n)=v.tmod n:=by rw[h3];exact wrap_i64 (by omega)
  clear f1 f2 h1 h2;simp -implicitDefEqProofs[f46,n0,n0',w0,h];exact h3
def tH (v:Int):Rat:=qH (v % 13-6) (1+(v.tdiv 13) % 3)
theorem Eu (v:Int)(hv:fu v):Ca E0 47 [.d (.v (.int .i64 v))] (.d (qD (tH v)),none):=by
 have h1:=Int.emod_nonneg v (show(13:Int)≠0 by omega);have h2:=Int.emod_lt_of_pos v (show(0:Int)<13 by omega);have hd:fu (v.tdiv 13):=by
  have h:=Int.tdiv_eq_ediv (a:=v) (b:=13);have s13:Int.sign 13=1:=rfl;rw[s13]at h;unfold fu at*;split at h<;>omega
 have h3:=Int.emod_nonneg (v.tdiv 13) (show(3:Int)≠0 by omega);have h4:=Int.emod_lt_of_pos (v.tdiv 13) (show(0:Int)<3 by omega);obtain⟨N,hN,t1,t2,t3⟩:=((iN v 13 hv (by omega) (by omega)).j ((iN (v.tdiv 13) 3 hd (by omega) (by omega)).j ((AY (v % 13-6) (1+(v.tdiv 13) % 3) (by omega) (by omega) (by omega)).any))).at 0;have w0:ah .i64 (v.tdiv 13)=v.tdiv 13:=wrap_i64 hd;have w1:ah .i64 (v % 13-6)=v % 13-6:=wrap_i64 (by omega);have w2:ah .i64 (1+(v.tdiv 13) % 3)=1+(v.tdiv 13) % 3:=wrap_i64 (by omega);refine Ca.bO (n:=N+60) ?_;rw[ak rfl (k47:E0.fn _=_) rfl];have e:qH (v % 13-6) (1+(v.tdiv 13) % 3)=tH v:=rfl;rw[e]at t3;generalize tH v=x at*;clear h1 h2 h3 h4 hd e hN;simp only[qD,raw,LD]at*;generalize qs x=s,LL (qn x)=ns,LL (qd x)=ds at*;simp -implicitDefEqProofs[f47,t1,t2,t3,w0,w1,w2]
def qY (k:Int):Int:=if k % 7=5\/k % 7=6 then 6 else k % 7+1
def yT (k:Int):List Int:=if k % 7=5 then [1,2] else if k % 7=6 then [3,4,5] else []
theorem XC (k:Int)(hk:fu k):Ca E0 15 [.d (.v (.int .i64 k))] (.d (bz (qY k) (yT k)),none):=by
 have h1:=Int.emod_nonneg k (show(7:Int)≠0 by omega);have h2:=Int.emod_lt_of_pos k (show(0:Int)<7 by omega);have hj:fu (k % 7):=by unfold fu;omega
 have e7:k % 7 % 7=k % 7:=by omega
 obtain⟨N,hN,t1,t2⟩:=((iN k 7 hk (by omega) (by omega)).j ((iN (k % 7) 7 hj (by omega) (by omega)).any)).at 0;rw[e7]at t2;have w2:ah .i64 (k % 7+1)=k % 7+1:=wrap_i64 (by omega);refine Ca.bO (n:=N+100) ?_;rw[ak rfl (k15:E0.fn _=_) rfl];unfold qY yT bz LK;generalize k % 7=j at*;clear e7 hj h1 h2 hN
 by_cases h5:j=5
 ·subst h5;simp -implicitDefEqProofs[f15,t1]
 ·by_cases h6:j=6
  ·subst h6;simp -implicitDefEqProofs[f15,t1]
  ·have h5':(j==5)=false:=by simpa using h5
   have h6':(j==6)=false:=by simpa using h6
   simp -implicitDefEqProofs[f15,t1,t2,h5,h6,h5',h6',w2]
end Fi.S
