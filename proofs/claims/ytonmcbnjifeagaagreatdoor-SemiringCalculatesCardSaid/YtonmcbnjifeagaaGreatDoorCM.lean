/- Polynomials of package weightedref02. -/
import Derived.Test.YtonmcbnjifeagaaGreatDoorCN
set_option linter.unusedVariables false
set_option linter.unusedSimpArgs false
noncomputable section
namespace Fi.S
open Go Fi
set_option maxHeartbeats 8000000
def mD:List aJ->d_->Rat->List aJ
 | [],e,c=>[(e,c)]
 | p::r,e,c=>if iZ p.1 e=true then p::mD r e c else if p.1=e then(if c+p.2=0 then r else(e,c+p.2)::r) else(e,c)::p::r
def jZ (l:List aJ)(e:d_)(c:Rat):List aJ:=if aX e=true/\c≠0 then mD l e c else l
theorem zn {l:List aJ}{e:d_}{c:Rat}{p:aJ}(h:p ∈ mD l e c):p=(e,c)\/p ∈ l\/∃ y,(e,y) ∈ l/\p=(e,c+y)/\c+y≠0:=by
 induction l with
 | nil=>exact .inl (by simpa[mD] using h)
 | cons q r ih =>
  unfold mD at h;split at h
  ·rcases List.mem_cons.1 h with rfl|h
   ·exact .inr (.inl (List.mem_cons_self ..))
   ·rcases ih h with h|h|⟨y,h1,h2⟩
    ·exact .inl h
    ·exact .inr (.inl (List.mem_cons_of_mem _ h))
    ·exact .inr (.inr ⟨y,List.mem_cons_of_mem _ h1,h2⟩)
  ·split at h
   ·rename_i he;split at h
    ·exact .inr (.inl (List.mem_cons_of_mem _ h))
    ·rename_i hn;rcases List.mem_cons.1 h with rfl|h
     ·obtain⟨a,y⟩:=q;simp only at he;subst he;exact .inr (.inr ⟨y,List.mem_cons_self ..,rfl,hn⟩)
     ·exact .inr (.inl (List.mem_cons_of_mem _ h))
   ·rcases List.mem_cons.1 h with rfl|h
    ·exact .inl rfl
    ·exact .inr (.inl h)
theorem Pq {l:List aJ}{e:d_}{c:Rat}(e':d_):tot (mD l e c) e'=tot l e'+if e=e' then c else 0:=by
 induction l with
 | nil=>simp only[mD,tot];grind
 | cons q r ih =>
  obtain⟨a,y⟩:=q;unfold mD;split
  ·simp only[tot,ih];grind
  ·split
   ·rename_i he;simp only at he;subst he;split
    ·rename_i h0;simp only[tot]
     by_cases h:a=e'
     ·subst h;simp only[if_true];grind
     ·simp only[if_neg h];grind
    ·simp only[tot]
     by_cases h:a=e'
     ·subst h;simp only[if_true];grind
     ·simp only[if_neg h];grind
   ·simp only[tot];grind
theorem Ps {l:List aJ}{e:d_}{c:Rat}(h:Vb l):Vb (mD l e c):=by
 induction l with
 | nil=>exact List.pairwise_cons.2 ⟨fun _ h=>(by cases h),List.Pairwise.nil⟩
 | cons q r ih =>
  have h':=List.pairwise_cons.1 h;unfold mD;split
  ·rename_i hlt;refine List.pairwise_cons.2 ⟨fun p hp => ?_,ih h'.2⟩;rcases zn hp with rfl|hp|⟨y,_,rfl,_⟩
   ·exact hlt
   ·exact h'.1 p hp
   ·exact hlt
  ·rename_i hlt;split
   ·rename_i he;split
    ·exact h'.2
    ·refine List.pairwise_cons.2 ⟨fun p hp => ?_,h'.2⟩;have:=h'.1 p hp;rw[he]at this;exact this
   ·rename_i hne;have hq:iZ e q.1=true:=by
     cases h1:iZ e q.1 with
     | true=>rfl
     | false=>exact absurd (jh (by simpa using hlt) h1) hne
    refine List.pairwise_cons.2 ⟨fun p hp => ?_,h⟩;rcases List.mem_cons.1 hp with rfl|hp
    ·exact hq
    ·exact kv hq (h'.1 p hp)
theorem zo (l:List aJ)(e:d_)(c:Rat)(e':d_):tot (jZ l e c) e'=tot l e'+if aX e=true/\e=e' then c else 0:=by
 unfold jZ;split
 ·rename_i h;rw[Pq]
  by_cases h2:e=e'
  ·rw[if_pos h2,if_pos ⟨h.1,h2⟩]
  ·rw[if_neg h2,if_neg (fun h3=>h2 h3.2)]
 ·rename_i h;split
  ·rename_i h2;have:c=0:=Classical.byContradiction fun h3=>h ⟨h2.1,h3⟩
   subst this;grind
  ·grind
theorem TG {S T U:Nat}{l:List aJ}{e:d_}{c:Rat}(h:PV S l)(hS:1<=S)(hT:qz c<=T)(hU:∀ e',qz (tot l e'+if aX e=true/\e=e' then c else 0)<=U):PV U (jZ l e c):=by
 have hs:Vb (jZ l e c):=by
  unfold jZ;split
  ·exact Ps h.zi
  ·exact h.zi
 refine⟨hs,fun p hp => ?_,fun p hp => ?_,fun p hp => ?_⟩
 ·unfold jZ at hp;split at hp
  ·rename_i hh;rcases zn hp with rfl|hp|⟨y,_,rfl,hn⟩
   ·exact hh.2
   ·exact h.nz p hp
   ·exact hn
  ·exact h.nz p hp
 ·unfold jZ at hp;split at hp
  ·rename_i hh;rcases zn hp with rfl|hp|⟨y,_,rfl,hn⟩
   ·exact hh.1
   ·exact h.fits p hp
   ·exact hh.1
  ·exact h.fits p hp
 ·have h1:=lG (dG hs) hp;rw[zo]at h1;rw[<-h1];exact hU _
theorem Bz (e:d_):∀ l:List aJ,∃ a b:List aJ,l=a++b/\(∀ p ∈ a,iZ p.1 e=true)/\(∀ p r,b=p::r->iZ p.1 e=false)/\∀ c,mD l e c=a++mD b e c
 | []=>⟨[],[],rfl,fun _ h=>(by cases h),fun _ _ h=>(by cases h),fun _=>rfl⟩
 | q::l=>by
  cases hq:iZ q.1 e with
  | true =>
   obtain⟨a,b,h1,h2,h3,h4⟩:=Bz e l;refine⟨q::a,b,by rw[h1];rfl,fun p hp => ?_,h3,fun c => ?_⟩
   ·rcases List.mem_cons.1 hp with rfl|hp
    ·exact hq
    ·exact h2 p hp
   ·show(if iZ q.1 e=true then q::mD l e c else _)=_;rw[if_pos hq,h4];rfl
  | false=>exact⟨[],q::l,rfl,fun _ h=>(by cases h),fun p r h=>by cases h;exact hq,fun _=>rfl⟩
end Fi.S
namespace Fi.S
open Go Fi
set_option maxHeartbeats 8000000
theorem xE (d e:d_):(0<gT d e)↔iZ e d=true:=by
 obtain⟨a,b,c⟩:=d;obtain⟨a',b',c'⟩:=e;unfold iZ gT kJ;simp only[decide_eq_true_eq]
 repeat' split
 all_goals first|omega|simp_all|(simp_all;omega)
theorem zt (d e:d_):gT d e=0↔d=e:=by
 constructor
 ·intro h;have h1:iZ d e=false:=by unfold iZ;simp;omega
  have h2:iZ e d=false:=by
   cases h3:iZ e d with
   | false=>rfl
   | true=>have:=(xE d e).2 h3;omega
  exact jh h1 h2
 ·rintro rfl;have h1:=dP d;have h2:¬ 0<gT d d:=fun h=>by rw[xE,h1]at h;cases h
  unfold iZ at h1;simp at h1;omega
def RA:aD:=f84.body.r.r.r.l.bl.lp
def wF (es:List D)(i:Nat)(t5 t6 t7 t8 t9:FV)(L:List ae):St :=
 (st0 [.d (.s 6 es),.u,.r (.loc 0) 0,.u,.d (.v (.int .i64 i)),t5,t6,t7,t8,t9] L)
theorem Pt (es:List D)(i:Nat)(p:aJ)(e:d_)(c:Rat)(hi:es[i]?=some (qC p.1 p.2))(hn:es.length<=100000000)(hlt:iZ p.1 e=true):Ex E1 RA (wF es i .u .u .u .u .u [eu (e,c)]) (.norm,wF es (i+1) .u .u .u .u .u [eu (e,c)]):=by
 have hil:i<es.length:=(bE hi)
 have bg:af .i64 ((i:Int)+1)=(i:Int)+1:=wrap_i64 (by omega);have hk1:((i+1:Nat):Int)=(i:Int)+1:=by omega
 have hk0:(0:Int)<=(i:Int):=by omega
 have hkc:(i:Int)<(es.length:Int):=by omega
 obtain⟨N,t⟩:=(Ca.dO (Ca.a_ (jf 0 e p.1))).get;have hpos:0<gT e p.1:=(xE _ _).2 hlt;refine Ex.of (n:=N+100) ?_;unfold wF;rw[hk1];generalize gT e p.1=r at*;obtain⟨⟨a,b,c'⟩,x⟩:=p;obtain⟨a2,b2,c2⟩:=e;simp only[eu,qC,wX,iG,LD]at*;generalize qs x=s,LL (qn x)=ns,LL (qd x)=ds,qs c=s',LL (qn c)=ns',LL (qd c)=ds' at*;have i1:=idx hi;simp -implicitDefEqProofs [RA,f84,bg,hk0,hkc,hil,hi,i1,t,hpos]
theorem TH (es:List D)(e:d_)(c:Rat):Ex E1 RA (wF es es.length .u .u .u .u .u [eu (e,c)]) (.exit 0,wF es es.length .u .u (.d (.v (.bool false))) .u .u [eu (e,c)]):=by
 refine Ex.of (n:=100) ?_;unfold wF eu;simp -implicitDefEqProofs [RA,f84]
theorem TI (es:List D)(i:Nat)(p:aJ)(e:d_)(c:Rat)(hi:es[i]?=some (qC p.1 p.2))(hlt:iZ p.1 e=false):Ex E1 RA (wF es i .u .u .u .u .u [eu (e,c)]) (.exit 0,wF es i .u .u (.d (.v (.bool false))) .u .u [eu (e,c)]):=by
 have hil:i<es.length:=(bE hi)
 have hk0:(0:Int)<=(i:Int):=by omega
 have hkc:(i:Int)<(es.length:Int):=by omega
 obtain⟨N,t⟩:=(Ca.dO (Ca.a_ (jf 0 e p.1))).get;have hpos:¬ 0<gT e p.1:=fun h=>by rw[xE,hlt]at h;cases h
 refine Ex.of (n:=N+100) ?_;unfold wF;generalize gT e p.1=r at*;obtain⟨⟨a,b,c'⟩,x⟩:=p;obtain⟨a2,b2,c2⟩:=e;simp only[eu,qC,wX,iG,LD]at*;generalize qs x=s,LL (qn x)=ns,LL (qd x)=ds,qs c=s',LL (qn c)=ns',LL (qd c)=ds' at*;have i1:=idx hi;simp -implicitDefEqProofs [RA,f84,hk0,hkc,hil,hi,i1,t,hpos]
theorem TJ (a b:List aJ)(e:d_)(c:Rat)(hn:(a++b).length<=100000000)(ha:∀ p ∈ a,iZ p.1 e=true)(hb:∀ p r,b=p::r->iZ p.1 e=false) :
  Ex E1 (.loop RA) (wF ((a++b).map fun p=>qC p.1 p.2) 0 .u .u .u .u .u [eu (e,c)]) (.exit 0,wF ((a++b).map fun p=>qC p.1 p.2) a.length .u .u (.d (.v (.bool false))) .u .u [eu (e,c)]):=by
 have hlen:((a++b).map fun p=>qC p.1 p.2).length=(a++b).length:=by simp
 obtain⟨r,h1,rfl⟩:=Ex.inv (E:=E1) (b:=RA) (S:=fun i:Nat=>wF ((a++b).map fun p=>qC p.1 p.2) i .u .u .u .u .u [eu (e,c)]) (fun i=>a.length-i) (fun i=>i<=a.length)
  (fun r=>r=(.exit 0,wF ((a++b).map fun p=>qC p.1 p.2) a.length .u .u (.d (.v (.bool false))) .u .u [eu (e,c)])) (by
   intro i hi
   by_cases h:i<a.length
   ·have hp:((a++b).map fun p=>qC p.1 p.2)[i]?=some (qC a[i].1 a[i].2):=by
     rw[List.getElem?_map,List.getElem?_append_left h,List.getElem?_eq_getElem h];rfl
    exact .inl ⟨i+1,Pt _ i a[i] e c hp (by rw[hlen];exact hn) (ha _ (List.getElem_mem h)),by omega,by omega⟩
   ·obtain rfl:i=a.length:=by omega
    cases b with
    | nil =>
     have:=TH (a.map fun p:aJ=>qC p.1 p.2) e c;rw[List.length_map]at this;simp only[List.append_nil];exact .inr ⟨_,this,by simp,rfl⟩
    | cons p r =>
     have hp:((a++p::r).map fun p=>qC p.1 p.2)[a.length]?=some (qC p.1 p.2):=by
      rw[List.getElem?_map,List.getElem?_append_right (Nat.le_refl _),Nat.sub_self];rfl
     exact .inr ⟨_,TI _ _ p e c hp (hb p r rfl),by simp,rfl⟩) 0 (Nat.zero_le _)
 exact h1
section
theorem Ie {E:Env}{F:ai}{n:Nat}{c:aD}{st:St}{r:FV × Option (List ae)}(h:(match EX E n c st with|some (.exit _,_)=>none|some (_,st')=>finish F st'|none=>none)=some r) :
  ∃ o st',Ex E c st (o,st')/\(∀ id,o≠.exit id)/\finish F st'=some r:=by
 cases he:EX E n c st with
 | none=>rw[he]at h;cases h
 | some x =>
  obtain⟨o,st'⟩:=x;rw[he]at h;cases o with
  | exit id=>cases h
  | norm=>exact⟨_,_,Ex.of he,fun id hid=>(by cases hid),h⟩
  | ret=>exact⟨_,_,Ex.of he,fun id hid=>(by cases hid),h⟩
theorem gW (az n:Nat)(es:List D)(h:n=es.length):ae.view az 6 0 n (.row az 6 es)=some es:=by
 subst h;simp[ae.view]
section put
variable (es:List D) (e:d_) (c:Rat)
def Yr:St:=(st0 [.d (.s 6 es),.u,.r (.loc 0) 0,.u,.u,.u,.u,.u,.u,.u] [eu (e,c)])
theorem ZJ:Ex E1 f84.body.l (st0 [.d (.s 6 es),.d (qC e c),.u,.u,.u,.u,.u,.u,.u,.u] []) (.norm,Yr es e c):=by
 refine Ex.of (n:=60) ?_;unfold Yr eu qC wX LD;simp -implicitDefEqProofs [f84]
theorem WJ (hc:qz c<=10000000)(h:¬ (aX e=true/\c≠0)):Ex E1 f84.body.r.l (Yr es e c) (.ret,(st0 [.u,.u,.u,.d (.s 6 es),.u,.u,.u,.u,.u,.u] [eu (e,c)])):=by
 obtain⟨N,hN,t1,t2⟩:=((Ca.dO (Ca.a_ (nk 0 e))).j ((Ca.dO (kH c (by omega))).any)).at 0;refine Ex.of (n:=N+100) ?_;have hz:aX e=true->c.num.sign=0:=fun hf=>by
  have:c=0:=Classical.byContradiction fun h3=>h ⟨hf,h3⟩
  subst this;rfl
 generalize aX e=f,c.num.sign=sg at*;unfold Yr;simp only[eu,iG,qD,raw,LD]at*;generalize qs c=s',LL (qn c)=ns',LL (qd c)=ds' at*;cases f
 ·simp -implicitDefEqProofs [f84,t1,t2]
 ·have:=hz rfl;subst this;simp -implicitDefEqProofs [f84,t1,t2]
theorem WK (hc:qz c<=10000000)(hf:aX e=true)(h0:c≠0):Ex E1 f84.body.r.l (Yr es e c) (.norm,(st0 [.d (.s 6 es),.u,.r (.loc 0) 0,.u,.u,.u,.d (.v (.bool false)),.u,.u,.u] [eu (e,c)])):=by
 obtain⟨N,hN,t1,t2⟩:=((Ca.dO (Ca.a_ (nk 0 e))).j ((Ca.dO (kH c (by omega))).any)).at 0;have hz:c.num.sign≠0:=fun h=>h0 (Rat.num_eq_zero.1 (Int.sign_eq_zero_iff_zero.1 h))
 refine Ex.of (n:=N+100) ?_;rw[hf]at t1;generalize c.num.sign=sg at*;unfold Yr;simp only[eu,iG,qD,raw,LD]at*;generalize qs c=s',LL (qn c)=ns',LL (qd c)=ds' at*;have hz':(sg==0)=false:=by simpa using hz
 simp -implicitDefEqProofs [f84,t1,t2,hz,hz']
theorem ZK:Ex E1 f84.body.r.r.l (st0 [.d (.s 6 es),.u,.r (.loc 0) 0,.u,.u,.u,.d (.v (.bool false)),.u,.u,.u] [eu (e,c)]) (.norm,wF es 0 .u .u .u .u .u [eu (e,c)]):=by
 refine Ex.of (n:=60) ?_;unfold wF eu;simp -implicitDefEqProofs [f84]
end put
theorem tk (A:List D)(x:D):List.take (A.length+1) (A++[x])=A++[x]:=by rw[show A.length+1=(A++[x]).length by simp,List.take_length]
theorem hv1 (az:Nat)(A:List D)(x:D):ae.view az 6 0 (A.length+1) (.row az 6 (A++[x]))=some (A++[x]):=gW _ _ _ (by simp)
theorem hv2 (az:Nat)(A:List D)(x y:D)(B':List D):ae.view az 6 0 (A.length+1+(B'.length+1)) (.row az 6 (A++x::y::B'))=some (A++x::y::B'):=gW _ _ _ (by simp;omega)
theorem hv3 (az:Nat)(x y:D)(B':List D):ae.view az 6 0 (1+(B'.length+1)) (.row az 6 (x::y::B'))=some (x::y::B'):=gW _ _ _ (by simp;omega)
theorem hv4 (az:Nat)(A B':List D):ae.view az 6 0 (A.length+B'.length) (.row az 6 (A++B'))=some (A++B'):=gW _ _ _ (by simp)
theorem hv5 (az:Nat)(A:List D)(x:D)(B':List D):ae.view az 6 0 (A.length+1+B'.length) (.row az 6 (A++x::B'))=some (A++x::B'):=gW _ _ _ (by simp;omega)
theorem hv6 (az:Nat)(x:D)(B':List D):ae.view az 6 0 (1+B'.length) (.row az 6 (x::B'))=some (x::B'):=gW _ _ _ (by simp;omega)
theorem hv7 (az:Nat)(x:D)(B':List D):ae.view az 6 0 (B'.length+1) (.row az 6 (x::B'))=some (x::B'):=gW _ _ _ (by simp)
theorem TK (az:Nat)(x:D):ae.view az 6 0 1 (.row az 6 [x])=some [x]:=gW _ _ _ rfl
theorem WL (az:Nat)(B':List D):ae.view az 6 0 B'.length (.row az 6 B')=some B':=gW _ _ _ rfl
theorem Pw (A:List D)(e:d_)(c:Rat)(hn:(A++[]).length<=100000000) :
  ∃ n,(match EX E1 n f84.body.r.r.r.r (wF (A++[]) A.length .u .u (.d (.v (.bool false))) .u .u [eu (e,c)]) with|some (.exit _,_)=>none|some (_,st')=>finish f84 st'|none=>none)=some (.d (.s 6 (A++[qC e c])),none):=by
 rw[List.length_append]at hn;have Ig:(0:Int)<=(A.length:Int):=by omega
 have bg:af .i64 ((A.length:Int)+1)=(A.length:Int)+1:=wrap_i64 (by omega);have m1:A.length*80<=1099511627776:=by omega
 have m2:A.length<=1099511627776:=by omega
 have m3:(A.length+1)*80<=1099511627776:=by omega
 have m4:A.length+1<=1099511627776:=by omega
 refine⟨200,?_⟩;unfold wF;obtain⟨a2,b2,c2⟩:=e;simp only[eu,qC,wX,LD]at*;generalize qs c=s1,LL (qn c)=ns1,LL (qd c)=ds1 at*
 by_cases hA:A=[]
 ·subst hA;simp -implicitDefEqProofs [f84,lh,Jl,most,FV.ag,FV.aK,ae.ag,Ig,tk,hv1,hv2,hv3,hv4,hv5,hv6,hv7,TK,bg,m1,m2,m3,m4]
 ·have hA1:A.isEmpty=false:=by simpa using hA
  simp -implicitDefEqProofs [f84,lh,Jl,most,FV.ag,FV.aK,ae.ag,Ig,tk,hv1,hv2,hv3,hv4,hv5,hv6,hv7,TK,bg,m1,m2,m3,m4,hA,hA1]
theorem Lp (A B':List D)(e:d_)(c:Rat)(p:aJ)(hn:(A++qC p.1 p.2::B').length<=100000000)(hne:p.1≠e) :
  ∃ n,(match EX E1 n f84.body.r.r.r.r (wF (A++qC p.1 p.2::B') A.length .u .u (.d (.v (.bool false))) .u .u [eu (e,c)]) with|some (.exit _,_)=>none|some (_,st')=>finish f84 st'|none=>none)=some (.d (.s 6 (A++qC e c::qC p.1 p.2::B')),none):=by
 rw[List.length_append]at hn;have Ig:(0:Int)<=(A.length:Int):=by omega
 have bg:af .i64 ((A.length:Int)+1)=(A.length:Int)+1:=wrap_i64 (by omega);have m1:A.length*80<=1099511627776:=by omega
 have m2:A.length<=1099511627776:=by omega
 have m3:(A.length+1)*80<=1099511627776:=by omega
 have m4:A.length+1<=1099511627776:=by omega
 rw[List.length_cons]at hn;have m5:(A.length+1+(B'.length+1))*80<=1099511627776:=by omega
 have m6:A.length+1+(B'.length+1)<=1099511627776:=by omega
 have m7:(1+(B'.length+1))*80<=1099511627776:=by omega
 have m8:1+(B'.length+1)<=1099511627776:=by omega
 have k1:(A.length:Int)<(A.length:Int)+((B'.length:Int)+1):=by omega
 have k2:A.length<A.length+(B'.length+1):=by omega
 have k3:¬ (A.length:Int)=(A.length:Int)+((B'.length:Int)+1):=by omega
 have TL:((A.length:Int)==(A.length:Int)+((B'.length:Int)+1))=false:=by simpa using k3
 have k10:((A.length:Int)+((B'.length:Int)+1)).toNat=A.length+(B'.length+1):=by omega
 have k11:((B'.length:Int)+1).toNat=B'.length+1:=by omega
 have w1:af .i64 1=1:=wrap_i64 (by omega);have k12:A.length+(B'.length+1)-A.length=B'.length+1:=by omega
 have j1:(0:Int)<=(B'.length:Int)+1:=by omega
 have j2:(1:Int)<=(B'.length:Int)+1:=by omega
 have j3:(0:Int)<(B'.length:Int)+1:=by omega
 have M6:¬ (0:Int)=(B'.length:Int)+1:=by omega
 have TM:((0:Int)==(B'.length:Int)+1)=false:=by simpa using M6
 have k4:(A.length:Int)<=(A.length:Int)+((B'.length:Int)+1):=by omega
 obtain⟨N,t⟩:=(Ca.dO (Ca.a_ (jf 0 e p.1))).get;have h0:gT e p.1≠0:=fun h=>hne ((zt _ _).1 h).symm
 have h0':(gT e p.1 != 0)=true:=by simpa using h0
 have hg:∀ x:D,(A++x::B')[A.length]?=some x:=fun x=>by simp
 refine⟨N+200,?_⟩;generalize gT e p.1=r at*;unfold wF;obtain⟨a2,b2,c2⟩:=e;obtain⟨⟨a,b,c'⟩,x⟩:=p;simp only[eu,qC,wX,iG,LD]at*;generalize qs c=s1,LL (qn c)=ns1,LL (qd c)=ds1,qs x=s2,LL (qn x)=ns2,LL (qd x)=ds2 at*
 by_cases hA:A=[]
 ·subst hA;simp (maxSteps:=400000) -implicitDefEqProofs [f84,lh,Jl,most,FV.ag,FV.aK,ae.ag,Ig,tk,hv1,hv2,hv3,hv4,hv5,hv6,hv7,TK,bg,m1,m2,m3,m4,t,h0,h0',m5,m6,m7,m8,k1,k2,k3,TL,M6,TM,j1,j2,j3,WL,k10,k11,k12,w1,k4]
 ·have hA1:A.isEmpty=false:=by simpa using hA
  simp -implicitDefEqProofs [f84,lh,Jl,most,FV.ag,FV.aK,ae.ag,Ig,tk,hv1,hv2,hv3,hv4,hv5,hv6,hv7,TK,bg,m1,m2,m3,m4,hA,hA1,t,h0,h0',hg,m5,m6,m7,m8,k1,k2,k3,TL,M6,TM,j1,j2,j3,WL,k10,k11,k12,w1,k4]
theorem Px (A B':List D)(e:d_)(c:Rat)(p:aJ)(hn:(A++qC p.1 p.2::B').length<=100000000)(he:p.1=e)(hc:qz c<=5000000)(hp:qz p.2<=5000000)(hs:c+p.2=0) :
  ∃ n,(match EX E1 n f84.body.r.r.r.r (wF (A++qC p.1 p.2::B') A.length .u .u (.d (.v (.bool false))) .u .u [eu (e,c)]) with|some (.exit _,_)=>none|some (_,st')=>finish f84 st'|none=>none)=some (.d (.s 6 (A++B')),none):=by
 rw[List.length_append]at hn;have Ig:(0:Int)<=(A.length:Int):=by omega
 have bg:af .i64 ((A.length:Int)+1)=(A.length:Int)+1:=wrap_i64 (by omega);have m1:A.length*80<=1099511627776:=by omega
 have m2:A.length<=1099511627776:=by omega
 have m3:(A.length+1)*80<=1099511627776:=by omega
 have m4:A.length+1<=1099511627776:=by omega
 rw[List.length_cons]at hn;have m5:(A.length+1+B'.length)*80<=1099511627776:=by omega
 have m6:A.length+1+B'.length<=1099511627776:=by omega
 have m7:(1+B'.length)*80<=1099511627776:=by omega
 have m8:1+B'.length<=1099511627776:=by omega
 have m9:(A.length+B'.length)*80<=1099511627776:=by omega
 have m10:A.length+B'.length<=1099511627776:=by omega
 have m11:B'.length*80<=1099511627776:=by omega
 have m12:B'.length<=1099511627776:=by omega
 have k1:(A.length:Int)<(A.length:Int)+((B'.length:Int)+1):=by omega
 have k2:A.length<A.length+(B'.length+1):=by omega
 have k3:¬ (A.length:Int)=(A.length:Int)+((B'.length:Int)+1):=by omega
 have TL:((A.length:Int)==(A.length:Int)+((B'.length:Int)+1))=false:=by simpa using k3
 have k10:((A.length:Int)+((B'.length:Int)+1)).toNat=A.length+(B'.length+1):=by omega
 have k11:((B'.length:Int)+1).toNat=B'.length+1:=by omega
 have w1:af .i64 1=1:=wrap_i64 (by omega);have k12:A.length+(B'.length+1)-A.length=B'.length+1:=by omega
 have j1:(0:Int)<=(B'.length:Int)+1:=by omega
 have j2:(1:Int)<=(B'.length:Int)+1:=by omega
 have j3:(0:Int)<(B'.length:Int)+1:=by omega
 have M6:¬ (0:Int)=(B'.length:Int)+1:=by omega
 have TM:((0:Int)==(B'.length:Int)+1)=false:=by simpa using M6
 have k4:(A.length:Int)<=(A.length:Int)+((B'.length:Int)+1):=by omega
 have k5:(A.length:Int)+1<=(A.length:Int)+((B'.length:Int)+1):=by omega
 have k6:(0:Int)<=(A.length:Int)+1:=by omega
 have k7:((A.length:Int)+1).toNat=A.length+1:=by omega
 have k8:A.length+(B'.length+1)-(A.length+1)=B'.length:=by omega
 subst he;have hz:=m_ c p.2;obtain⟨N,hN,t,t2,t3⟩:=((Ca.dO (Ca.a_ (jf 0 p.1 p.1))).j ((Ca.dO (xw c p.2 (by omega) (by omega))).j ((Ca.dO (kH (c+p.2) (by omega))).any))).at 0;rw[(zt p.1 p.1).2 rfl]at t;have hg:∀ x:D,(A++x::B')[A.length]?=some x:=fun x=>by simp
 have hd:∀ x:D,List.drop (A.length+1) (A++x::B')=B':=fun x=>by rw[<-List.drop_drop];simp
 have hsg:(c+p.2).num.sign=0:=by rw[hs];rfl
 refine⟨N+200,?_⟩;generalize (c+p.2).num.sign=sg at*;generalize c+p.2=y at*;unfold wF;obtain⟨⟨a,b,c'⟩,x⟩:=p;simp only[eu,qC,wX,iG,qD,raw,LD]at*;generalize qs c=s1,LL (qn c)=ns1,LL (qd c)=ds1,qs x=s2,LL (qn x)=ns2,LL (qd x)=ds2,qs y=s3,LL (qn y)=ns3,LL (qd y)=ds3 at*
 by_cases hA:A=[]
 ·subst hA
  by_cases hB:B'=[]
  ·subst hB;simp -implicitDefEqProofs [f84,lh,Jl,most,FV.ag,FV.aK,ae.ag,Ig,tk,hv1,hv2,hv3,hv4,hv5,hv6,hv7,TK,bg,m1,m2,m3,m4,t,t2,t3,hsg,m5,m6,m7,m8,m9,m10,m11,m12,k1,k2,k3,TL,M6,TM,j1,j2,j3,WL,k10,k11,k12,w1,k4,k5,k6,k7,k8]
  ·have hB1:B'.isEmpty=false:=by simpa using hB
   simp (maxSteps:=400000) -implicitDefEqProofs [f84,lh,Jl,most,FV.ag,FV.aK,ae.ag,Ig,tk,hv1,hv2,hv3,hv4,hv5,hv6,hv7,TK,bg,m1,m2,m3,m4,t,t2,t3,hsg,m5,m6,m7,m8,m9,m10,m11,m12,k1,k2,k3,TL,M6,TM,j1,j2,j3,WL,k10,k11,k12,w1,k4,k5,k6,k7,k8,hB,hB1]
 ·have hA1:A.isEmpty=false:=by simpa using hA
  simp -implicitDefEqProofs [f84,lh,Jl,most,FV.ag,FV.aK,ae.ag,Ig,tk,hv1,hv2,hv3,hv4,hv5,hv6,hv7,TK,bg,m1,m2,m3,m4,t,t2,t3,hsg,m5,m6,m7,m8,m9,m10,m11,m12,k1,k2,k3,TL,M6,TM,j1,j2,j3,WL,k10,k11,k12,w1,k4,k5,k6,k7,k8,hA,hA1,hg,hd]
theorem TN (A B':List D)(e:d_)(c:Rat)(p:aJ)(hn:(A++qC p.1 p.2::B').length<=100000000)(he:p.1=e)(hc:qz c<=5000000)(hp:qz p.2<=5000000)(hs:c+p.2≠0) :
  ∃ n,(match EX E1 n f84.body.r.r.r.r (wF (A++qC p.1 p.2::B') A.length .u .u (.d (.v (.bool false))) .u .u [eu (e,c)]) with|some (.exit _,_)=>none|some (_,st')=>finish f84 st'|none=>none)=some (.d (.s 6 (A++qC e (c+p.2)::B')),none):=by
 rw[List.length_append]at hn;have Ig:(0:Int)<=(A.length:Int):=by omega
 have bg:af .i64 ((A.length:Int)+1)=(A.length:Int)+1:=wrap_i64 (by omega);have m1:A.length*80<=1099511627776:=by omega
 have m2:A.length<=1099511627776:=by omega
 have m3:(A.length+1)*80<=1099511627776:=by omega
 have m4:A.length+1<=1099511627776:=by omega
 rw[List.length_cons]at hn;have m5:(A.length+1+B'.length)*80<=1099511627776:=by omega
 have m6:A.length+1+B'.length<=1099511627776:=by omega
 have m7:(1+B'.length)*80<=1099511627776:=by omega
 have m8:1+B'.length<=1099511627776:=by omega
 have m9:(A.length+B'.length)*80<=1099511627776:=by omega
 have m10:A.length+B'.length<=1099511627776:=by omega
 have m11:B'.length*80<=1099511627776:=by omega
 have m12:B'.length<=1099511627776:=by omega
 have k1:(A.length:Int)<(A.length:Int)+((B'.length:Int)+1):=by omega
 have k2:A.length<A.length+(B'.length+1):=by omega
 have k3:¬ (A.length:Int)=(A.length:Int)+((B'.length:Int)+1):=by omega
 have TL:((A.length:Int)==(A.length:Int)+((B'.length:Int)+1))=false:=by simpa using k3
 have k10:((A.length:Int)+((B'.length:Int)+1)).toNat=A.length+(B'.length+1):=by omega
 have k11:((B'.length:Int)+1).toNat=B'.length+1:=by omega
 have w1:af .i64 1=1:=wrap_i64 (by omega);have k12:A.length+(B'.length+1)-A.length=B'.length+1:=by omega
 have j1:(0:Int)<=(B'.length:Int)+1:=by omega
 have j2:(1:Int)<=(B'.length:Int)+1:=by omega
 have j3:(0:Int)<(B'.length:Int)+1:=by omega
 have M6:¬ (0:Int)=(B'.length:Int)+1:=by omega
 have TM:((0:Int)==(B'.length:Int)+1)=false:=by simpa using M6
 have k4:(A.length:Int)<=(A.length:Int)+((B'.length:Int)+1):=by omega
 have k5:(A.length:Int)+1<=(A.length:Int)+((B'.length:Int)+1):=by omega
 have k6:(0:Int)<=(A.length:Int)+1:=by omega
 have k7:((A.length:Int)+1).toNat=A.length+1:=by omega
 have k8:A.length+(B'.length+1)-(A.length+1)=B'.length:=by omega
 subst he;have hz:=m_ c p.2;obtain⟨N,hN,t,t2,t3⟩:=((Ca.dO (Ca.a_ (jf 0 p.1 p.1))).j ((Ca.dO (xw c p.2 (by omega) (by omega))).j ((Ca.dO (kH (c+p.2) (by omega))).any))).at 0;rw[(zt p.1 p.1).2 rfl]at t;have hg:∀ x:D,(A++x::B')[A.length]?=some x:=fun x=>by simp
 have hd:∀ x:D,List.drop (A.length+1) (A++x::B')=B':=fun x=>by rw[<-List.drop_drop];simp
 have hsg:(c+p.2).num.sign≠0:=fun h=>hs (Rat.num_eq_zero.1 (Int.sign_eq_zero_iff_zero.1 h))
 have ZL:((c+p.2).num.sign != 0)=true:=by simpa using hsg
 refine⟨N+200,?_⟩;generalize (c+p.2).num.sign=sg at*;generalize c+p.2=y at*;unfold wF;obtain⟨⟨a,b,c'⟩,x⟩:=p;simp only[eu,qC,wX,iG,qD,raw,LD]at*;generalize qs c=s1,LL (qn c)=ns1,LL (qd c)=ds1,qs x=s2,LL (qn x)=ns2,LL (qd x)=ds2,qs y=s3,LL (qn y)=ns3,LL (qd y)=ds3 at*
 by_cases hA:A=[]
 ·subst hA;simp (maxSteps:=400000) -implicitDefEqProofs [f84,lh,Jl,most,FV.ag,FV.aK,ae.ag,Ig,tk,hv1,hv2,hv3,hv4,hv5,hv6,hv7,TK,bg,m1,m2,m3,m4,t,t2,t3,hsg,ZL,m5,m6,m7,m8,m9,m10,m11,m12,k1,k2,k3,TL,M6,TM,j1,j2,j3,WL,k10,k11,k12,w1,k4,k5,k6,k7,k8]
 ·have hA1:A.isEmpty=false:=by simpa using hA
  simp -implicitDefEqProofs [f84,lh,Jl,most,FV.ag,FV.aK,ae.ag,Ig,tk,hv1,hv2,hv3,hv4,hv5,hv6,hv7,TK,bg,m1,m2,m3,m4,t,t2,t3,hsg,ZL,m5,m6,m7,m8,m9,m10,m11,m12,k1,k2,k3,TL,M6,TM,j1,j2,j3,WL,k10,k11,k12,w1,k4,k5,k6,k7,k8,hA,hA1,hg,hd]
end
theorem TQ {l a b:List aJ}{e:d_}{c:Rat}(hn:l.length<=100000000)(hl:l=a++b)(ha:∀ p ∈ a,iZ p.1 e=true)(hb:∀ p r,b=p::r->iZ p.1 e=false)(hc:qz c<=5000000)(hp:Bd 5000000 l)(hins:mD l e c=a++mD b e c) :
  ∃ n,(match EX E1 n f84.body.r.r.r.r (wF (l.map fun p=>qC p.1 p.2) a.length .u .u (.d (.v (.bool false))) .u .u [eu (e,c)]) with|some (.exit _,_)=>none|some (_,st')=>finish f84 st'|none=>none)=some (.d (.s 6 ((mD l e c).map fun p=>qC p.1 p.2)),none):=by
 subst hl;rw[hins];rw[List.map_append,List.map_append];have hla:(a.map fun p=>qC p.1 p.2).length=a.length:=by simp
 cases b with
 | nil =>
  have h:=Pw (a.map fun p=>qC p.1 p.2) e c (by simpa using hn);rw[hla]at h;exact h
 | cons q r =>
  have hq:=hb q r rfl;have hn':((a.map fun p=>qC p.1 p.2)++qC q.1 q.2::(r.map fun p=>qC p.1 p.2)).length<=100000000:=by simpa using hn
  have ZM:qz q.2<=5000000:=hp q (by simp);have hi:mD (q::r) e c=if q.1=e then(if c+q.2=0 then r else(e,c+q.2)::r) else(e,c)::q::r:=by
   show(if iZ q.1 e=true then q::mD r e c else _)=_;rw[if_neg (by simp[hq])]
  rw[hi]
  by_cases he:q.1=e
  ·rw[if_pos he]
   by_cases h0:c+q.2=0
   ·rw[if_pos h0];have h:=Px (a.map fun p=>qC p.1 p.2) (r.map fun p=>qC p.1 p.2) e c q hn' he hc ZM h0;rw[hla]at h;exact h
   ·rw[if_neg h0];have h:=TN (a.map fun p=>qC p.1 p.2) (r.map fun p=>qC p.1 p.2) e c q hn' he hc ZM h0;rw[hla]at h;exact h
  ·rw[if_neg he];have h:=Lp (a.map fun p=>qC p.1 p.2) (r.map fun p=>qC p.1 p.2) e c q hn' he;rw[hla]at h;exact h
theorem Ih (l:List aJ)(e:d_)(c:Rat)(hn:l.length<=100000000)(hb:Bd 5000000 l)(hc:qz c<=5000000):Ca E1 84 [.d (au l),.d (qC e c)] (.d (au (jZ l e c)),none):=by
 have hA:=ZJ (l.map fun p=>qC p.1 p.2) e c
 by_cases h:aX e=true/\c≠0
 ·obtain⟨a,b,h1,h2,h3,h4⟩:=Bz e l;obtain⟨n,hn'⟩:=TQ hn h1 h2 h3 hc hb (h4 c);obtain⟨o,st',hE,ho,hf⟩:=Ie hn';have hput:jZ l e c=mD l e c:=if_pos h;rw[hput];have hB:=WK (l.map fun p=>qC p.1 p.2) e c (by omega) h.1 h.2;have hC:=ZK (l.map fun p=>qC p.1 p.2) e c;have hL:Ex E1 (.loop RA) (wF (l.map fun p=>qC p.1 p.2) 0 .u .u .u .u .u [eu (e,c)]) (.exit 0,wF (l.map fun p=>qC p.1 p.2) a.length .u .u (.d (.v (.bool false))) .u .u [eu (e,c)]):=by
   have:=TJ a b e c (by rw[<-h1];exact hn) h2 h3;rw[<-h1]at this;exact this
  refine Ca.body (o:=o) (st1:=st') rfl (k84:E1.fn _=_) rfl ?_ ho hf;show Ex E1 (.seq f84.body.l (.seq f84.body.r.l (.seq f84.body.r.r.l (.seq (.block 0 (.loop RA)) f84.body.r.r.r.r)))) _ _;exact hA.seq (hB.seq (hC.seq (hL.block.seq hE)))
 ·have hput:jZ l e c=l:=if_neg h;rw[hput];have hB:=WJ (l.map fun p=>qC p.1 p.2) e c (by omega) h;refine Ca.body (o:=.ret) rfl (k84:E1.fn _=_) rfl ?_ (by intro id h;cases h) (st1:=(st0 [.u,.u,.u,.d (.s 6 (l.map fun p=>qC p.1 p.2)),.u,.u,.u,.u,.u,.u] [eu (e,c)])) ?_
  ·show Ex E1 (.seq f84.body.l (.seq f84.body.r.l f84.body.r.r)) _ _;exact hA.seq hB.eF
  ·unfold au;generalize (l.map fun p=>qC p.1 p.2)=es at*;simp -implicitDefEqProofs [f84]
def WM:aD:=f86.body.r.r.r.l.r.bl.lp
def Lr (es:List D)(i:Nat)(out t:FV)(L:List ae):St:=(st0 [.d (.s 6 es),.u,out,.d (.v (.int .i64 i)),.u,t] L)
theorem Py (es:List D)(i:Nat)(p:aJ)(out:FV)(L:List ae)(xs:List D)(hi:es[i]?=some (qC p.1 p.2))(hn:es.length<=100000000)(hq:qz p.2<=10000000)(ho:mg out L xs)(hx:xs.length<=100000000) :
  ∃ out' L',Ex E1 WM (Lr es i out .u L) (.norm,Lr es (i+1) out' .u L')/\mg out' L' (xs++[qC p.1 p.2]):=by
 have hil:i<es.length:=(bE hi)
 have bg:af .i64 ((i:Int)+1)=(i:Int)+1:=wrap_i64 (by omega);have hk1:((i+1:Nat):Int)=(i:Int)+1:=by omega
 have hk0:(0:Int)<=(i:Int):=by omega
 have hkc:(i:Int)<(es.length:Int):=by omega
 obtain⟨N,t⟩:=(Ca.dO (dX p.2 (by omega))).get;obtain⟨⟨a,b,c⟩,x⟩:=p;simp only[qC,wX,qD,raw,LD]at*;generalize qs x=s,LL (qn x)=ns,LL (qd x)=ds at*;have i1:=idx hi;rcases ho with ⟨rfl,rfl⟩|⟨j,az,rfl,hrow⟩
 ·refine⟨.ls (.loc L.length) 0 6 0 1,L++[.row 0 6 [.a [.v (.int .i64 a),.v (.int .i64 b),.v (.int .i64 c),.v (.bool s),.s 1 ns,.s 1 ds]]],Ex.of (n:=N+100) ?_,.inr ⟨L.length,0,by simp,by simp⟩⟩;unfold Lr;rw[hk1];simp -implicitDefEqProofs [WM,f86,bg,hk0,hkc,hil,hi,i1,t,most]
 ·have hm1:(xs.length+1)*80<=1099511627776:=by omega
  have hm2:xs.length+1<=1099511627776:=by omega
  have hjl:j<L.length:=(bE hrow)
  have i2:=idx hrow;refine⟨.ls (.loc j) (az+1) 6 0 (xs.length+1),L.set j (.row (az+1) 6 (xs++[.a [.v (.int .i64 a),.v (.int .i64 b),.v (.int .i64 c),.v (.bool s),.s 1 ns,.s 1 ds]])),Ex.of (n:=N+100) ?_,.inr ⟨j,az+1,by simp,by simp[hjl]⟩⟩;unfold Lr;rw[hk1];simp -implicitDefEqProofs [WM,f86,bg,hk0,hkc,hil,hi,i1,t,most,hrow,i2,hm1,hm2]
theorem TR (l:List aJ)(hn:l.length<=100000000)(hb:Bd 10000000 l) :
  ∃ out L,Ex E1 (.loop WM) (Lr (l.map fun p=>qC p.1 p.2) 0 (.d (.n 6)) .u []) (.exit 0,Lr (l.map fun p=>qC p.1 p.2) l.length out (.d (.v (.bool false))) L)/\mg out L (l.map fun p=>qC p.1 p.2):=by
 have hlen:(l.map fun p=>qC p.1 p.2).length=l.length:=by simp
 obtain⟨r,h1,out,L,rfl,h3⟩:=Ex.inv (E:=E1) (b:=WM) (α:=Nat × FV × List ae) (S:=fun a=>Lr (l.map fun p=>qC p.1 p.2) a.1 a.2.1 .u a.2.2) (fun a=>l.length-a.1)
  (fun a=>a.1<=l.length/\mg a.2.1 a.2.2 ((l.take a.1).map fun p=>qC p.1 p.2)) (fun r=>∃ out L,r=(.exit 0,Lr (l.map fun p=>qC p.1 p.2) l.length out (.d (.v (.bool false))) L)/\mg out L (l.map fun p=>qC p.1 p.2)) (by
   rintro⟨i,out,L⟩ ⟨q1,q2⟩;simp only at q1 q2
   by_cases hi:i<l.length
   ·have hp:l[i]?=some l[i]:=List.getElem?_eq_getElem hi;have hp2:(l.map fun p=>qC p.1 p.2)[i]?=some (qC l[i].1 l[i].2):=by rw[List.getElem?_map,hp];rfl
    obtain⟨out',L',g1,g2⟩:=Py _ i l[i] out L _ hp2 (by rw[hlen];exact hn) (hb _ (List.getElem_mem hi)) q2 (by rw[List.length_map,List.length_take];omega);refine .inl ⟨(i+1,out',L'),g1,by show l.length-(i+1)<l.length-i;omega,by show i+1<=_;omega,?_⟩;show mg out' L' ((l.take (i+1)).map fun p=>qC p.1 p.2);rw[List.take_add_one,hp];have e:((l.take i++[l[i]]).map fun p:aJ=>qC p.1 p.2)=((l.take i).map fun p=>qC p.1 p.2)++[qC l[i].1 l[i].2]:=by rw[List.map_append];rfl
    show mg out' L' ((l.take i++[l[i]]).map fun p:aJ=>qC p.1 p.2);rw[e];exact g2
   ·obtain rfl:i=l.length:=by omega
    rw[List.take_length]at q2;refine .inr ⟨_,Ex.of (n:=60) ?_,?_,out,L,rfl,q2⟩
    ·simp only[Lr];rw[<-hlen];generalize (l.map fun p=>qC p.1 p.2)=es at*;simp -implicitDefEqProofs [WM,f86]
    ·simp) (0,.d (.n 6),[]) ⟨Nat.zero_le _,.inl ⟨rfl,rfl⟩⟩
 exact⟨out,L,h1,h3⟩
theorem lH {S:Nat}{l:List aJ}(h:PV S l)(hS:S<=100000):∃ o,Ca E1 86 [.d (au l)] (.d (au l),o)/\o=none:=by
 have hq:=Bh _ (Pm h hS);rw[xD h (fun m hm=>by cases hm),<-Dh]at hq;obtain⟨N,t⟩:=(Ca.dO hq).get;have hlen:=h.length;obtain⟨out,L,hl,ho⟩:=TR l (by omega) (h.bd.mono (by omega));have hA:Ex E1 f86.body.l (st0 [.d (au l),.u,.u,.u,.u,.u] []) (.norm,(st0 [.d (au l),.u,.u,.u,.u,.u] [])):=by
  refine Ex.of (n:=60) ?_;generalize au l=x;simp -implicitDefEqProofs [f86]
 have hB:Ex E1 f86.body.r.l (st0 [.d (au l),.u,.u,.u,.u,.u] []) (.norm,(st0 [.d (au l),.u,.u,.u,.d (.v (.bool false)),.u] [])):=by
  refine Ex.of (n:=N+60) ?_;unfold au at*;generalize (l.map fun p=>qC p.1 p.2)=es at*;simp -implicitDefEqProofs [f86,t]
 have hC:Ex E1 f86.body.r.r.l (st0 [.d (au l),.u,.u,.u,.d (.v (.bool false)),.u] []) (.norm,(st0 [.d (au l),.u,.d (.n 6),.u,.u,.u] [])):=by
  refine Ex.of (n:=60) ?_;generalize au l=x;simp -implicitDefEqProofs [f86]
 have hD:Ex E1 f86.body.r.r.r.l.l (st0 [.d (au l),.u,.d (.n 6),.u,.u,.u] []) (.norm,Lr (l.map fun p=>qC p.1 p.2) 0 (.d (.n 6)) .u []):=by
  refine Ex.of (n:=60) ?_;unfold Lr au;generalize (l.map fun p=>qC p.1 p.2)=es at*;simp -implicitDefEqProofs [f86]
 refine⟨none,?_,rfl⟩;have hE:∃ n,(match EX E1 n f86.body.r.r.r.r (Lr (l.map fun p=>qC p.1 p.2) l.length out (.d (.v (.bool false))) L) with|some (.exit _,_)=>none|some (_,st')=>finish f86 st'|none=>none)=some (.d (au l),none):=by
  refine⟨60,?_⟩;unfold Lr au;generalize (l.map fun p=>qC p.1 p.2)=es at*;rcases ho with ⟨rfl,rfl⟩|⟨j,az,rfl,hrow⟩
  ·simp -implicitDefEqProofs [f86]
  ·have hv:=gW az es.length es rfl;have i2:=idx hrow;simp -implicitDefEqProofs [f86,hrow,i2,hv]
 obtain⟨n,hE⟩:=hE;obtain⟨o,st',hE,ho',hf⟩:=Ie hE;refine Ca.body (o:=o) (st1:=st') rfl (k86:E1.fn _=_) rfl ?_ ho' hf;show Ex E1 (.seq f86.body.l (.seq f86.body.r.l (.seq f86.body.r.r.l (.seq (.seq f86.body.r.r.r.l.l (.block 0 (.loop WM))) f86.body.r.r.r.r)))) _ _;exact hA.seq (hB.seq (hC.seq ((hD.seq hl.block).seq hE)))
def eD (l ms:List aJ):List aJ:=ms.foldl (fun s p=>jZ s p.1 p.2) l
theorem nG (l ms:List aJ)(p:aJ):eD l (ms++[p])=jZ (eD l ms) p.1 p.2:=by simp[eD,List.foldl_append]
theorem vz (l:List aJ)(e:d_):∀ ms:List aJ,tot (eD l ms) e=tot l e+tot (ms.filter fun p=>aX p.1) e:=by
 intro ms
 induction ms generalizing l with
 | nil=>simp only[eD,List.foldl_nil,List.filter_nil,tot];grind
 | cons p r ih =>
  show tot (eD (jZ l p.1 p.2) r) e=_;rw[ih,zo]
  by_cases h:aX p.1=true
  ·rw[List.filter_cons_of_pos (p:=fun p:aJ=>aX p.1) h];obtain⟨a,y⟩:=p;simp only at h;simp only[tot,h,true_and];grind
  ·rw[List.filter_cons_of_neg (p:=fun p:aJ=>aX p.1) h];simp only[h,false_and,if_false];grind
theorem Fu {S T U:Nat}{l:List aJ}(h:PV S l)(hS:1<=S)(hSU:S<=U):∀ {ms:List aJ},Bd T ms->(∀ k e,qz (tot l e+tot ((ms.take k).filter fun p=>aX p.1) e)<=U)->PV U (eD l ms):=by
 intro ms hT hU;have main:∀ k,k<=ms.length->PV U (eD l (ms.take k)):=by
  intro k
  induction k with
  | zero=>intro _;simpa[eD] using h.mono hSU
  | succ k ih =>
   intro hk;have hp:ms[k]?=some ms[k]:=List.getElem?_eq_getElem (by omega);have e1:ms.take (k+1)=ms.take k++[ms[k]]:=by rw[List.take_add_one,hp];rfl
   have h1:=ih (by omega);rw[e1,nG];refine TG h1 (by omega) (hT _ (List.getElem_mem (by omega))) (fun e' => ?_);have h2:=hU (k+1) e';have h3:=vz l e' (ms.take (k+1));rw[e1,nG,zo]at h3;rw[h3,<-e1];exact h2
 have:=main ms.length (Nat.le_refl _)
 rwa [List.take_length]at this
theorem wG {ms:List aJ}(h:Fits ms):(ms.filter fun p=>aX p.1)=ms:=List.filter_eq_self.2 (fun p hp=>h p hp)
theorem Ii {S T:Nat}(hS:1<=S)(hT:1<=T){a b:List aJ}(ha:PV S a)(hb:PV T b)(k:Nat)(e:d_):qz (tot a e+tot ((b.take k).filter fun p=>aX p.1) e)<=S+T+1:=by
 have hf:Fits (b.take k):=fun p hp=>hb.fits p (List.mem_of_mem_take hp)
 rw[wG hf];have h1:=nE hS (dG ha.zi) ha.bd e;have hk:Keys (b.take k):=List.Nodup.sublist ((List.take_sublist k b).map _) (dG hb.zi);have h2:=nE hT hk (fun p hp=>hb.bd p (List.mem_of_mem_take hp)) e;have:=m_ (tot a e) (tot (b.take k) e);omega
theorem fold_add {S T:Nat}(hS:1<=S)(hT:1<=T){a b:List aJ}(ha:PV S a)(hb:PV T b)(k:Nat):PV (S+T+1) (eD a (b.take k)):=by
 refine Fu (T:=T) ha hS (by omega) (fun p hp=>hb.bd p (List.mem_of_mem_take hp)) (fun j e => ?_);rw[List.take_take];exact Ii hS hT ha hb _ e
theorem Fv {S T:Nat}(hS:1<=S)(hT:1<=T){a b:List aJ}(ha:PV S a)(hb:PV T b):eD a b=fF a b:=by
 have h1:=fold_add hS hT ha hb b.length;rw[List.take_length]at h1;refine PV.ext h1 (kR hS hT ha hb) (fun e => ?_);rw[vz,mq,wG hb.fits]
def Yt:aD:=f49.body.r.r.l.r.bl.lp
def M7 (b:List D)(acc:D)(i:Nat)(t:FV):St:=(st0 [.u,.d (.s 6 b),.u,.d acc,.d (.v (.int .i64 i)),t] [])
theorem Pz (es:List D)(l:List aJ)(i:Nat)(p:aJ)(hi:es[i]?=some (qC p.1 p.2))(hn:es.length<=100000000)(hl:l.length<=100000000)(hb:Bd 5000000 l)(hp:qz p.2<=5000000):Ex E1 Yt (M7 es (au l) i .u) (.norm,M7 es (au (jZ l p.1 p.2)) (i+1) .u):=by
 have hil:i<es.length:=(bE hi)
 have bg:af .i64 ((i:Int)+1)=(i:Int)+1:=wrap_i64 (by omega);have hk1:((i+1:Nat):Int)=(i:Int)+1:=by omega
 have hk0:(0:Int)<=(i:Int):=by omega
 have hkc:(i:Int)<(es.length:Int):=by omega
 obtain⟨N,t⟩:=(Ih l p.1 p.2 hl hb hp).get;refine Ex.of (n:=N+100) ?_;unfold M7 au at*;rw[hk1];generalize ((jZ l p.1 p.2).map fun p=>qC p.1 p.2)=y,(l.map fun p=>qC p.1 p.2)=z at*;simp only[qC,wX,LD]at*;generalize LL (qn p.2)=ns,LL (qd p.2)=ds at*;have i1:=idx hi;simp -implicitDefEqProofs [Yt,f49,bg,hk0,hkc,hil,hi,i1,t]
theorem TS {S:Nat}(hS:1<=S)(hS2:S<=2000000){a b:List aJ}(ha:PV S a)(hb:PV S b) :
  Ex E1 (.loop Yt) (M7 (b.map fun p=>qC p.1 p.2) (au a) 0 .u) (.exit 0,M7 (b.map fun p=>qC p.1 p.2) (au (fF a b)) b.length (.d (.v (.bool false)))):=by
 have hlen:(b.map fun p=>qC p.1 p.2).length=b.length:=by simp
 have lb:=hb.length;obtain⟨r,h1,rfl⟩:=Ex.inv (E:=E1) (b:=Yt) (S:=fun i:Nat=>M7 (b.map fun p=>qC p.1 p.2) (au (eD a (b.take i))) i .u) (fun i=>b.length-i) (fun i=>i<=b.length)
  (fun r=>r=(.exit 0,M7 (b.map fun p=>qC p.1 p.2) (au (fF a b)) b.length (.d (.v (.bool false))))) (by
   intro i hi
   by_cases h:i<b.length
   ·have hp:b[i]?=some b[i]:=List.getElem?_eq_getElem h;have hp2:(b.map fun p=>qC p.1 p.2)[i]?=some (qC b[i].1 b[i].2):=by rw[List.getElem?_map,hp];rfl
    have hpv:=fold_add hS hS ha hb i;have:=Pz _ (eD a (b.take i)) i b[i] hp2 (by omega) (by have:=hpv.length;omega) (hpv.bd.mono (by omega)) (by have:=hb.bd _ (List.getElem_mem h);omega);refine .inl ⟨i+1,?_,by omega,by omega⟩;have e1:b.take (i+1)=b.take i++[b[i]]:=by rw[List.take_add_one,hp];rfl
    rw[e1,nG];exact this
   ·obtain rfl:i=b.length:=by omega
    refine .inr ⟨_,Ex.of (n:=60) ?_,?_,rfl⟩
    ·rw[List.take_length,Fv hS hS ha hb];unfold M7;rw[<-hlen];generalize (b.map fun p=>qC p.1 p.2)=es,au (fF a b)=x at*;simp -implicitDefEqProofs [Yt,f49]
    ·simp) 0 (Nat.zero_le _)
 simpa[eD] using h1
theorem ui {S:Nat}(hS:1<=S)(hS2:S<=100000){a b:List aJ}(ha:PV S a)(hb:PV S b):Ca E1 49 [.d (au a),.d (au b)] (.d (au (fF a b)),none):=by
 obtain⟨_,h1,rfl⟩:=lH ha hS2;obtain⟨_,h2,rfl⟩:=lH hb hS2;obtain⟨N,hN,t1,t2⟩:=(h1.j h2.any).at 0;have hl:=TS hS (by omega) ha hb;have hA:Ex E1 f49.body.l (st0 [.d (au a),.d (au b),.u,.u,.u,.u] []) (.norm,(st0 [.d (au a),.d (au b),.u,.u,.u,.u] [])):=by
  refine Ex.of (n:=60) ?_;generalize au a=x;generalize au b=y;simp -implicitDefEqProofs [f49]
 have hB:Ex E1 f49.body.r.l (st0 [.d (au a),.d (au b),.u,.u,.u,.u] []) (.norm,(st0 [.u,.d (au b),.u,.d (au a),.u,.u] [])):=by
  refine Ex.of (n:=N+60) ?_;unfold au at*;generalize (a.map fun p=>qC p.1 p.2)=x,(b.map fun p=>qC p.1 p.2)=y at*;simp -implicitDefEqProofs [f49,t1,t2]
 have hC:Ex E1 f49.body.r.r.l.l (st0 [.u,.d (au b),.u,.d (au a),.u,.u] []) (.norm,M7 (b.map fun p=>qC p.1 p.2) (au a) 0 .u):=by
  refine Ex.of (n:=60) ?_;unfold M7 au;simp -implicitDefEqProofs [f49]
 have hD:Ex E1 f49.body.r.r.r (M7 (b.map fun p=>qC p.1 p.2) (au (fF a b)) b.length (.d (.v (.bool false)))) (.ret,(st0 [.u,.u,.d (au (fF a b)),.u,.u,.u] [])):=by
  refine Ex.of (n:=60) ?_;unfold M7 au;generalize ((fF a b).map fun p=>qC p.1 p.2)=x,(b.map fun p=>qC p.1 p.2)=y at*;simp -implicitDefEqProofs [f49]
 refine Ca.body (o:=.ret) rfl (k49:E1.fn _=_) rfl ?_ (by intro id h;cases h) (st1:=(st0 [.u,.u,.d (au (fF a b)),.u,.u,.u] [])) ?_
 ·show Ex E1 (.seq f49.body.l (.seq f49.body.r.l (.seq (.seq f49.body.r.r.l.l (.block 0 (.loop Yt))) f49.body.r.r.r))) _ _;exact hA.seq (hB.seq ((hC.seq hl.block).seq hD))
 ·unfold au;generalize ((fF a b).map fun p=>qC p.1 p.2)=x at*;simp -implicitDefEqProofs [f49]
def BA:aD:=f58.body.r.r.r.l.r.bl.lp
def zw:aD:=BA.r.l.bl
def Gv:aD:=zw.r.bl.lp
def zx:aD:=Gv.r.l.bl
def xmE:aD:=zx.r.l.r.bl.lp
def kS (xa xb:List D)(acc:D)(i k:Nat)(v5 v6 v7 t9 t10:FV)(L:List ae):St :=
 (st0 [.d (.s 6 xa),.d (.s 6 xb),.u,.d acc,.d (.v (.int .i64 i)),v5,v6,v7,.u,t9,t10] L)
theorem TT (xa xb:List D)(acc:D)(i k:Nat)(L:List ae)(p q:aJ)(y:Rat)(hi:xa[i]?=some (qC p.1 p.2))(hk:xb[k]?=some (qC q.1 q.2))(hn:xa.length<=100000000)(hn2:xb.length<=100000000)(hp:aX p.1=true)(hq:aX q.1=true) :
  Ex E1 zx.r.l (kS xa xb acc i 0 (.d (.v (.int .i64 k))) (.r (.loc L.length) 0) .u .u .u (L++[eu ((0,0,0),y)]))
   (.norm,kS xa xb acc i 0 (.d (.v (.int .i64 k))) (.r (.loc L.length) 0) (.d (.v (.int .i64 3))) .u (.d (.v (.bool false))) (L++[eu (bY p.1 q.1,y)])):=by
 have h1:=cZ hp;have h2:=cZ hq;have hil:i<xa.length:=(bE hi)
 have hkl:k<xb.length:=(bE hk)
 have hi0:(0:Int)<=(i:Int):=by omega
 have hk0:(0:Int)<=(k:Int):=by omega
 obtain⟨⟨a,b,c⟩,x⟩:=p;obtain⟨⟨a',b',c'⟩,x'⟩:=q;simp only at h1 h2;have w1:af .i64 (a+a')=a+a':=wrap_i64 (by omega);have w2:af .i64 (b+b')=b+b':=wrap_i64 (by omega);have w3:af .i64 (c+c')=c+c':=wrap_i64 (by omega);have u1:af .i64 1=1:=wrap_i64 (by omega);have u2:af .i64 2=2:=wrap_i64 (by omega);have u3:af .i64 3=3:=wrap_i64 (by omega);have g6:∀ o,(L++[o])[L.length]?=some o:=fun o=>by simp
 have gs:∀ o o',(L++[o]).set L.length o'=L++[o']:=fun o o'=>by rw[List.set_append_right _ _ (Nat.le_refl _)];simp
 refine Ex.of (n:=200) ?_;unfold kS;simp only[eu,qC,wX,bY,LD]at*;generalize qs x=s,LL (qn x)=ns,LL (qd x)=ds at*;generalize qs x'=s',LL (qn x')=ns',LL (qd x')=ds',qs y=s'',LL (qn y)=Li,LL (qd y)=ds'' at*;have i1:=idx hi;have i2:=idx hk;simp -implicitDefEqProofs [zx,xmE,Gv,zw,BA,f58,aA,w1,w2,w3,u1,u2,u3,hi,hk,i1,i2,hi0,hk0,hil,hkl,g6,gs]
def Acc (d:D)(l:List aJ):Prop:=d=au l\/(d=.n 6/\l=[])
theorem PE (xa xb:List D)(i k:Nat)(acc:D)(L:List ae)(l:List aJ)(hacc:Acc acc l)(p q:aJ)(hi:xa[i]?=some (qC p.1 p.2))(hk:xb[k]?=some (qC q.1 q.2))(hn:xa.length<=100000000)(hn2:xb.length<=100000000)
  (hp:aX p.1=true) (hq:aX q.1=true) (sp:qz p.2<=2000000) (sq:qz q.2<=2000000) (hl:Bd 5000000 l) (hll:l.length<=100000000) :
  ∃ L',Ex E1 Gv (kS xa xb acc i 0 (.d (.v (.int .i64 k))) .u .u .u .u L) (.norm,kS xa xb (au (jZ l (bY p.1 q.1) (p.2*q.2))) i 0 (.d (.v (.int .i64 (k+1:Nat)))) .u .u .u .u L'):=by
 have hil:i<xa.length:=(bE hi)
 have hkl:k<xb.length:=(bE hk)
 have bg:af .i64 ((k:Int)+1)=(k:Int)+1:=wrap_i64 (by omega);have hk1:((k+1:Nat):Int)=(k:Int)+1:=by omega
 have hi0:(0:Int)<=(i:Int):=by omega
 have hk0:(0:Int)<=(k:Int):=by omega
 have hkc:(k:Int)<(xb.length:Int):=by omega
 have hz:=rE p.2 q.2;refine⟨L++[eu (bY p.1 q.1,p.2*q.2)],?_⟩;have hA1:Ex E1 Gv.l (kS xa xb acc i 0 (.d (.v (.int .i64 k))) .u .u .u .u L) (.norm,kS xa xb acc i 0 (.d (.v (.int .i64 k))) .u .u (.d (.v (.bool true))) .u L):=by
  refine Ex.of (n:=60) ?_;unfold kS;simp -implicitDefEqProofs [Gv,zw,BA,f58,hkc]
 have hB:Ex E1 zx.l (kS xa xb acc i 0 (.d (.v (.int .i64 k))) .u .u (.d (.v (.bool true))) .u L) (.norm,kS xa xb acc i 0 (.d (.v (.int .i64 k))) (.r (.loc L.length) 0) .u .u .u (L++[eu ((0,0,0),p.2*q.2)])):=by
  obtain⟨N,t⟩:=(Ca.dO (C8 p.2 q.2 (by omega) (by omega))).get;refine Ex.of (n:=N+100) ?_;unfold kS;generalize p.2*q.2=y at*;obtain⟨⟨a,b,c⟩,x⟩:=p;obtain⟨⟨a',b',c'⟩,x'⟩:=q;simp only[eu,qC,wX,qD,raw,LD]at*;generalize qs x=s,LL (qn x)=ns,LL (qd x)=ds at*;generalize qs x'=s',LL (qn x')=ns',LL (qd x')=ds',qs y=s'',LL (qn y)=Li,LL (qd y)=ds'' at*;have i1:=idx hi;have i2:=idx hk;simp -implicitDefEqProofs [zx,Gv,zw,BA,f58,t,hi,hk,i1,i2,hi0,hk0,hil,hkl]
 have hE:=TT xa xb acc i k L p q (p.2*q.2) hi hk hn hn2 hp hq;have hZ:Ex E1 zx.r.r (kS xa xb acc i 0 (.d (.v (.int .i64 k))) (.r (.loc L.length) 0) (.d (.v (.int .i64 3))) .u (.d (.v (.bool false))) (L++[eu (bY p.1 q.1,p.2*q.2)]))
   (.norm,kS xa xb (au (jZ l (bY p.1 q.1) (p.2*q.2))) i 0 (.d (.v (.int .i64 k))) .u .u .u .u (L++[eu (bY p.1 q.1,p.2*q.2)])):=by
  obtain⟨N,t⟩:=(Ih l (bY p.1 q.1) (p.2*q.2) hll hl (by omega)).get;have g6:∀ o,(L++[o])[L.length]?=some o:=fun o=>by simp
  refine Ex.of (n:=N+100) ?_;clear hA1 hB hE;have hacc':(acc=au l)\/(acc=.n 6/\au l=.s 6 []):=by
   rcases hacc with h|⟨h,h'⟩
   ·exact .inl h
   ·exact .inr ⟨h,by rw[h'];rfl⟩
  unfold kS au at*;generalize ((jZ l (bY p.1 q.1) (p.2*q.2)).map fun p=>qC p.1 p.2)=y',(l.map fun p=>qC p.1 p.2)=z at*;generalize bY p.1 q.1=e,p.2*q.2=y at*;simp only[eu,qC,wX,LD]at*;generalize qs y=s'',LL (qn y)=Li,LL (qd y)=ds'' at*;rcases hacc' with rfl|⟨rfl,h2⟩
  ·simp -implicitDefEqProofs [zx,Gv,zw,BA,f58,t,g6]
  ·cases h2;simp -implicitDefEqProofs [zx,Gv,zw,BA,f58,t,g6]
 have hF:Ex E1 Gv.r.r (kS xa xb (au (jZ l (bY p.1 q.1) (p.2*q.2))) i 0 (.d (.v (.int .i64 k))) .u .u .u .u (L++[eu (bY p.1 q.1,p.2*q.2)]))
   (.norm,kS xa xb (au (jZ l (bY p.1 q.1) (p.2*q.2))) i 0 (.d (.v (.int .i64 (k+1:Nat)))) .u .u .u .u (L++[eu (bY p.1 q.1,p.2*q.2)])):=by
  refine Ex.of (n:=60) ?_;unfold kS;rw[hk1];generalize au (jZ l (bY p.1 q.1) (p.2*q.2))=z;simp -implicitDefEqProofs [Gv,zw,BA,f58,bg]
 show Ex E1 (.seq Gv.l (.seq (.block 3 (.seq zx.l (.seq zx.r.l zx.r.r))) Gv.r.r)) _ _;exact hA1.seq (((hB.seq (hE.seq hZ)).gy).seq hF)
def dA (p:aJ)(b:List aJ):List aJ:=b.map fun q=>(bY p.1 q.1,p.2*q.2)
def b_ (a b:List aJ):List aJ:=a.flatMap fun p=>dA p b
theorem Ij (a b:List aJ)(p:aJ):b_ (a++[p]) b=b_ a b++dA p b:=by simp[b_,List.flatMap_append]
theorem Dk (a b:List aJ):(b_ a b).length=a.length*b.length:=by
 induction a with
 | nil=>simp[b_]
 | cons p r ih =>
  have h1:b_ (p::r) b=dA p b++b_ r b:=by simp[b_]
  rw[h1,List.length_append,ih,List.length_cons,Nat.add_mul];simp[dA];omega
theorem j4 (a b:List aJ):((b_ a b).filter fun p=>aX p.1)=dz a b:=by
 unfold b_ dz;rw[List.filter_flatMap];rfl
theorem Fw {S:Nat}{p:aJ}{b:List aJ}(hp:qz p.2<=S)(hb:Bd S b):Bd (2*S) (dA p b):=by
 intro x hx;obtain⟨q,hq,rfl⟩:=List.mem_map.1 hx;have:=rE p.2 q.2;have:=hb q hq;show qz (p.2*q.2)<=_;omega
theorem Fx {S:Nat}{a b:List aJ}(ha:Bd S a)(hb:Bd S b):Bd (2*S) (b_ a b):=by
 intro x hx;obtain⟨p,hp,hx⟩:=List.mem_flatMap.1 hx;exact Fw (ha p hp) hb x hx
theorem BB {T:Nat}(hT:1<=T):∀ {l:List aJ},Bd T l->∀ e,qz (tot l e)<=l.length*(T+1)+1
 | [],_,e=>by
  have:=fE;simp only[tot,List.length_nil];omega
 | p::l,h,e=>by
  have h1:=BB hT (l:=l) (fun x hx=>h x (List.mem_cons_of_mem _ hx)) e;have h2:=h p (List.mem_cons_self ..);obtain⟨a,y⟩:=p;have h3:=m_ (if a=e then y else 0) (tot l e);have h4:qz (if a=e then y else 0)<=T:=by
   split
   ·exact h2
   ·exact Nat.le_trans fE (by omega)
  simp only[tot,List.length_cons,Nat.add_mul];omega
theorem BC {T N:Nat}(hT:1<=T){ms:List aJ}(hb:Bd T ms)(hn:ms.length<=N):PV (N*(T+1)+1) (eD [] ms):=by
 refine Fu (S:=1) (T:=T) (PV.nil 1) (by omega) (by omega) hb (fun k e => ?_);have h1:tot [] e+tot ((ms.take k).filter fun p=>aX p.1) e=tot ((ms.take k).filter fun p=>aX p.1) e:=by simp only[tot];grind
 rw[h1];have h2:=BB hT (l:=(ms.take k).filter fun p=>aX p.1) (fun p hp=>hb p (List.mem_of_mem_take (List.mem_filter.1 hp).1)) e;have h3:((ms.take k).filter fun p=>aX p.1).length<=N:=Nat.le_trans (List.length_filter_le _ _) (by rw[List.length_take];omega);exact Nat.le_trans h2 (Nat.add_le_add_right (Nat.mul_le_mul_right _ h3) 1)
theorem Fy {S:Nat}(hS:1<=S){a b:List aJ}(ha:PV S a)(hb:PV S b):eD [] (b_ a b)=dU a b:=by
 refine PV.ext (BC (T:=2*S) (by omega) (Fx ha.bd hb.bd) (Nat.le_refl _)) (uh hS ha hb) (fun e => ?_);rw[vz,j4,pz];simp only[tot];grind
theorem TU {S:Nat}(hS:1<=S)(hS2:S<=100000)(xa:List D)(b pre:List aJ)(i:Nat)(acc:D)(hacc:Acc acc (eD [] pre))(L:List ae)(p:aJ)(hi:xa[i]?=some (qC p.1 p.2))(hn:xa.length<=100000000)(hp:aX p.1=true)(sp:qz p.2<=S)(hb:PV S b)
  (hpre:Bd (2*S) pre) (hm:(pre.length+b.length)*(2*S+1)<=4000000) :
  ∃ acc' L',Acc acc' (eD [] (pre++dA p b))/\Ex E1 (.loop Gv) (kS xa (b.map fun p=>qC p.1 p.2) acc i 0 (.d (.v (.int .i64 0))) .u .u .u .u L)
   (.exit 2,kS xa (b.map fun p=>qC p.1 p.2) acc' i 0 (.d (.v (.int .i64 b.length))) .u .u (.d (.v (.bool false))) .u L'):=by
 have hlen:(b.map fun p=>qC p.1 p.2).length=b.length:=by simp
 have lb:=hb.length;obtain⟨r,h1,acc',L',rfl,h2⟩:=Ex.inv (E:=E1) (b:=Gv) (α:=Nat × D × List ae) (S:=fun x=>kS xa (b.map fun p=>qC p.1 p.2) x.2.1 i 0 (.d (.v (.int .i64 x.1))) .u .u .u .u x.2.2) (fun x=>b.length-x.1) (fun x=>x.1<=b.length/\Acc x.2.1 (eD [] (pre++dA p (b.take x.1))))
  (fun r=>∃ acc' L',r=(.exit 2,kS xa (b.map fun p=>qC p.1 p.2) acc' i 0 (.d (.v (.int .i64 b.length))) .u .u (.d (.v (.bool false))) .u L')/\Acc acc' (eD [] (pre++dA p b))) (by
   rintro⟨k,acc,L⟩ ⟨hk,ha⟩;simp only at hk ha
   by_cases h:k<b.length
   ·have hpk:b[k]?=some b[k]:=List.getElem?_eq_getElem h;have hp2:(b.map fun p=>qC p.1 p.2)[k]?=some (qC b[k].1 b[k].2):=by rw[List.getElem?_map,hpk];rfl
    have hmem:=List.getElem_mem h;have hpv:PV 4000001 (eD [] (pre++dA p (b.take k))):=by
     refine(BC (T:=2*S) (N:=pre.length+b.length) (by omega) (fun x hx => ?_) (by simp[dA];omega)).mono (by omega);rcases List.mem_append.1 hx with hx|hx
     ·exact hpre x hx
     ·exact Fw sp (fun y hy=>hb.bd y (List.mem_of_mem_take hy)) x hx
    have hsq:=hb.bd _ hmem;obtain⟨L',g⟩:=PE xa _ i k acc L (eD [] (pre++dA p (b.take k))) ha p b[k] hi hp2 hn (by omega) hp (hb.fits _ hmem) (by omega) (by omega) (hpv.bd.mono (by omega)) (by have:=hpv.length;omega);have e1:dA p (b.take (k+1))=dA p (b.take k)++[(bY p.1 b[k].1,p.2*b[k].2)]:=by
     rw[List.take_add_one,hpk];unfold dA;rw[List.map_append];rfl
    refine .inl ⟨(k+1,au (jZ (eD [] (pre++dA p (b.take k))) (bY p.1 b[k].1) (p.2*b[k].2)),L'),g,by show b.length-(k+1)<b.length-k;omega,by show k+1<=_;omega,.inl ?_⟩;show _=au (eD [] (pre++dA p (b.take (k+1))));rw[e1,<-List.append_assoc,nG]
   ·obtain rfl:k=b.length:=by omega
    rw[List.take_length]at ha;refine .inr ⟨_,Ex.of (n:=60) ?_,?_,acc,L,rfl,ha⟩
    ·unfold kS;rw[<-hlen];generalize (b.map fun p=>qC p.1 p.2)=es at*;simp -implicitDefEqProofs [Gv,zw,BA,f58]
    ·simp) (0,acc,L) ⟨Nat.zero_le _,by simpa[dA] using hacc⟩
 exact⟨acc',L',h2,h1⟩
theorem PG {S:Nat}(hS:1<=S)(hS2:S<=100000)(a b pre:List aJ)(i:Nat)(acc:D)(hacc:Acc acc (eD [] pre))(L:List ae)(p:aJ)(hi:a[i]?=some p)(hn:a.length<=100000000)(hp:aX p.1=true)(sp:qz p.2<=S)(hb:PV S b)
  (hpre:Bd (2*S) pre) (hm:(pre.length+b.length)*(2*S+1)<=4000000) :
  ∃ acc' L',Acc acc' (eD [] (pre++dA p b))/\Ex E1 BA (kS (a.map fun p=>qC p.1 p.2) (b.map fun p=>qC p.1 p.2) acc i 0 .u .u .u .u .u L)
   (.norm,kS (a.map fun p=>qC p.1 p.2) (b.map fun p=>qC p.1 p.2) acc' (i+1) 0 .u .u .u .u .u L'):=by
 have hlen:(a.map fun p=>qC p.1 p.2).length=a.length:=by simp
 have hil:i<a.length:=(bE hi)
 have hi2:(a.map fun p=>qC p.1 p.2)[i]?=some (qC p.1 p.2):=by rw[List.getElem?_map,hi];rfl
 have bg:af .i64 ((i:Int)+1)=(i:Int)+1:=wrap_i64 (by omega);have hk1:((i+1:Nat):Int)=(i:Int)+1:=by omega
 have hkc:(i:Int)<((a.map fun p=>qC p.1 p.2).length:Int):=by rw[hlen];omega
 obtain⟨acc',L',hac,hl⟩:=TU hS hS2 _ b pre i acc hacc L p hi2 (by rw[hlen];exact hn) hp sp hb hpre hm;refine⟨acc',L',hac,?_⟩;have hA:Ex E1 BA.l (kS (a.map fun p=>qC p.1 p.2) (b.map fun p=>qC p.1 p.2) acc i 0 .u .u .u .u .u L)
   (.norm,{kS (a.map fun p=>qC p.1 p.2) (b.map fun p=>qC p.1 p.2) acc i 0 .u .u .u .u .u L with vars:=(kS (a.map fun p=>qC p.1 p.2) (b.map fun p=>qC p.1 p.2) acc i 0 .u .u .u .u .u L).vars.set 8 (.d (.v (.bool true)))}):=by
  refine Ex.of (n:=60) ?_;unfold kS;generalize (a.map fun p=>qC p.1 p.2)=x at*;simp -implicitDefEqProofs [BA,f58,hkc]
 have hB:Ex E1 zw.l {kS (a.map fun p=>qC p.1 p.2) (b.map fun p=>qC p.1 p.2) acc i 0 .u .u .u .u .u L with vars:=(kS (a.map fun p=>qC p.1 p.2) (b.map fun p=>qC p.1 p.2) acc i 0 .u .u .u .u .u L).vars.set 8 (.d (.v (.bool true)))}
   (.norm,kS (a.map fun p=>qC p.1 p.2) (b.map fun p=>qC p.1 p.2) acc i 0 (.d (.v (.int .i64 0))) .u .u .u .u L):=by
  refine Ex.of (n:=60) ?_;unfold kS;generalize (a.map fun p=>qC p.1 p.2)=x,(b.map fun p=>qC p.1 p.2)=y at*;simp -implicitDefEqProofs [zw,BA,f58]
 have hF:Ex E1 BA.r.r (kS (a.map fun p=>qC p.1 p.2) (b.map fun p=>qC p.1 p.2) acc' i 0 (.d (.v (.int .i64 b.length))) .u .u (.d (.v (.bool false))) .u L')
   (.norm,kS (a.map fun p=>qC p.1 p.2) (b.map fun p=>qC p.1 p.2) acc' (i+1) 0 .u .u .u .u .u L'):=by
  refine Ex.of (n:=60) ?_;unfold kS;rw[hk1];generalize (a.map fun p=>qC p.1 p.2)=x,(b.map fun p=>qC p.1 p.2)=y at*;simp -implicitDefEqProofs [BA,f58,bg]
 show Ex E1 (.seq BA.l (.seq (.block 1 (.seq zw.l (.block 2 (.loop Gv)))) BA.r.r)) _ _;exact hA.seq (((hB.seq hl.block).gy).seq hF)
theorem TV {S:Nat}(hS:1<=S)(hS2:S<=100000){a b:List aJ}(ha:PV S a)(hb:PV S b)(hm:(a.length*b.length+b.length)*(2*S+1)<=4000000) :
  ∃ acc L',Acc acc (dU a b)/\Ex E1 (.loop BA) (kS (a.map fun p=>qC p.1 p.2) (b.map fun p=>qC p.1 p.2) (.n 6) 0 0 .u .u .u .u .u [])
   (.exit 0,{kS (a.map fun p=>qC p.1 p.2) (b.map fun p=>qC p.1 p.2) acc a.length 0 .u .u .u .u .u L' with vars:=(kS (a.map fun p=>qC p.1 p.2) (b.map fun p=>qC p.1 p.2) acc a.length 0 .u .u .u .u .u L').vars.set 8 (.d (.v (.bool false)))}):=by
 have hlen:(a.map fun p=>qC p.1 p.2).length=a.length:=by simp
 have la:=ha.length;obtain⟨r,h1,acc,L',rfl,h2⟩:=Ex.inv (E:=E1) (b:=BA) (α:=Nat × D × List ae) (S:=fun x=>kS (a.map fun p=>qC p.1 p.2) (b.map fun p=>qC p.1 p.2) x.2.1 x.1 0 .u .u .u .u .u x.2.2) (fun x=>a.length-x.1) (fun x=>x.1<=a.length/\Acc x.2.1 (eD [] (b_ (a.take x.1) b)))
  (fun r=>∃ acc L',r=(.exit 0,{kS (a.map fun p=>qC p.1 p.2) (b.map fun p=>qC p.1 p.2) acc a.length 0 .u .u .u .u .u L' with vars:=(kS (a.map fun p=>qC p.1 p.2) (b.map fun p=>qC p.1 p.2) acc a.length 0 .u .u .u .u .u L').vars.set 8 (.d (.v (.bool false)))})/\Acc acc (dU a b)) (by
   rintro⟨i,acc,L⟩ ⟨hi,hac⟩;simp only at hi hac
   by_cases h:i<a.length
   ·have hpk:a[i]?=some a[i]:=List.getElem?_eq_getElem h;have hmem:=List.getElem_mem h;obtain⟨acc',L',abW,g⟩:=PG hS hS2 a b (b_ (a.take i) b) i acc hac L a[i] hpk (by omega) (ha.fits _ hmem) (ha.bd _ hmem) hb (Fx (fun x hx=>ha.bd x (List.mem_of_mem_take hx)) hb.bd) (by
     refine Nat.le_trans (Nat.mul_le_mul_right _ ?_) hm;rw[Dk,List.length_take,Nat.min_eq_left (by omega)];exact Nat.add_le_add_right (Nat.mul_le_mul_right _ (by omega)) _)
    have e1:b_ (a.take (i+1)) b=b_ (a.take i) b++dA a[i] b:=by
     rw[List.take_add_one,hpk];exact Ij _ _ _
    refine .inl ⟨(i+1,acc',L'),g,by show a.length-(i+1)<a.length-i;omega,by show i+1<=_;omega,?_⟩;show Acc acc' (eD [] (b_ (a.take (i+1)) b));rw[e1];exact abW
   ·obtain rfl:i=a.length:=by omega
    rw[List.take_length,Fy hS ha hb]at hac;refine .inr ⟨_,Ex.of (n:=60) ?_,?_,acc,L,rfl,hac⟩
    ·unfold kS;rw[<-hlen];generalize (a.map fun p=>qC p.1 p.2)=x,(b.map fun p=>qC p.1 p.2)=y at*;simp -implicitDefEqProofs [BA,f58]
    ·simp) (0,.n 6,[]) ⟨Nat.zero_le _,.inr ⟨rfl,rfl⟩⟩
 exact⟨acc,L',h2,h1⟩
theorem zy {S:Nat}(hS:1<=S)(hS2:S<=100000){a b:List aJ}(ha:PV S a)(hb:PV S b)(hm:(a.length*b.length+b.length)*(2*S+1)<=4000000):Ca E1 58 [.d (au a),.d (au b)] (.d (au (dU a b)),none):=by
 obtain⟨_,h1,rfl⟩:=lH ha hS2;obtain⟨_,h2,rfl⟩:=lH hb hS2;obtain⟨N,hN,t1,t2⟩:=(h1.j h2.any).at 0;obtain⟨acc,L',hac,hl⟩:=TV hS hS2 ha hb hm;have hA:Ex E1 f58.body.l (st0 [.d (au a),.d (au b),.u,.u,.u,.u,.u,.u,.u,.u,.u] []) (.norm,(st0 [.d (au a),.d (au b),.u,.u,.u,.u,.u,.u,.u,.u,.u] [])):=by
  refine Ex.of (n:=60) ?_;generalize au a=x;generalize au b=y;simp -implicitDefEqProofs [f58]
 have hB:Ex E1 f58.body.r.l (st0 [.d (au a),.d (au b),.u,.u,.u,.u,.u,.u,.u,.u,.u] []) (.norm,(st0 [.d (au a),.d (au b),.u,.u,.u,.u,.u,.u,.u,.u,.u] [])):=by
  refine Ex.of (n:=N+60) ?_;unfold au at*;generalize (a.map fun p=>qC p.1 p.2)=x,(b.map fun p=>qC p.1 p.2)=y at*;simp -implicitDefEqProofs [f58,t1,t2]
 have hC:Ex E1 f58.body.r.r.l (st0 [.d (au a),.d (au b),.u,.u,.u,.u,.u,.u,.u,.u,.u] []) (.norm,(st0 [.d (au a),.d (au b),.u,.d (.n 6),.u,.u,.u,.u,.u,.u,.u] [])):=by
  refine Ex.of (n:=60) ?_;generalize au a=x;generalize au b=y;simp -implicitDefEqProofs [f58]
 have hD:Ex E1 f58.body.r.r.r.l.l (st0 [.d (au a),.d (au b),.u,.d (.n 6),.u,.u,.u,.u,.u,.u,.u] []) (.norm,kS (a.map fun p=>qC p.1 p.2) (b.map fun p=>qC p.1 p.2) (.n 6) 0 0 .u .u .u .u .u []):=by
  refine Ex.of (n:=60) ?_;unfold kS au;generalize (a.map fun p=>qC p.1 p.2)=x,(b.map fun p=>qC p.1 p.2)=y at*;simp -implicitDefEqProofs [f58]
 have hE:Ex E1 f58.body.r.r.r.r {kS (a.map fun p=>qC p.1 p.2) (b.map fun p=>qC p.1 p.2) acc a.length 0 .u .u .u .u .u L' with vars:=(kS (a.map fun p=>qC p.1 p.2) (b.map fun p=>qC p.1 p.2) acc a.length 0 .u .u .u .u .u L').vars.set 8 (.d (.v (.bool false)))}
   (.ret,(st0 [.u,.u,.d acc,.u,.u,.u,.u,.u,.u,.u,.u] (L'))):=by
  refine Ex.of (n:=60) ?_;unfold kS;generalize (a.map fun p=>qC p.1 p.2)=x,(b.map fun p=>qC p.1 p.2)=y at*;simp -implicitDefEqProofs [f58]
 refine Ca.body (o:=.ret) rfl (k58:E1.fn _=_) rfl ?_ (by intro id h;cases h) (st1:=(st0 [.u,.u,.d acc,.u,.u,.u,.u,.u,.u,.u,.u] (L'))) ?_
 ·show Ex E1 (.seq f58.body.l (.seq f58.body.r.l (.seq f58.body.r.r.l (.seq (.seq f58.body.r.r.r.l.l (.block 0 (.loop BA))) f58.body.r.r.r.r)))) _ _;exact hA.seq (hB.seq (hC.seq ((hD.seq hl.block).seq hE)))
 ·rcases hac with rfl|⟨rfl,h⟩
  ·unfold au;generalize ((dU a b).map fun p=>qC p.1 p.2)=x at*;simp -implicitDefEqProofs [f58]
  ·rw[h];simp -implicitDefEqProofs [f58,au]
def bB (x:Rat):List aJ:=if x=0 then [] else [((0,0,0),x)]
theorem PH (x:Rat):jZ [] (0,0,0) x=bB x:=by
 unfold jZ bB mD;have h:aX (0,0,0)=true:=by decide
 by_cases hx:x=0
 ·rw[if_pos hx,if_neg (fun h=>h.2 hx)]
 ·rw[if_neg hx,if_pos ⟨h,hx⟩]
theorem jk {S:Nat}{x:Rat}(h:qz x<=S):PV S (bB x):=by
 unfold bB;split
 ·exact PV.nil S
 ·rename_i hx;refine⟨List.pairwise_cons.2 ⟨fun _ h=>(by cases h),List.Pairwise.nil⟩,fun p hp => ?_,fun p hp => ?_,fun p hp => ?_⟩<;>(rw[List.mem_singleton]at hp;subst hp)
  ·exact hx
  ·exact(by decide:aX (0,0,0)=true)
  ·exact h
theorem vB (x:Rat)(hx:qz x<=5000000):Ca E1 48 [.d (qD x)] (.d (au (bB x)),none):=by
 obtain⟨N1,t1⟩:=(Ca.dO (dX x (by omega))).any;have hp:=Ih [] (0,0,0) x (by simp) (fun p hp=>by cases hp) hx;rw[PH]at hp;obtain⟨N2,t2⟩:=hp.any;obtain⟨N,hN⟩:∃ N,N=N1+N2:=⟨_,rfl⟩
 replace t1:=t1 N (by omega);replace t2:=t2 N (by omega);refine Ca.a_ (n:=N+100) ?_;rw[ah rfl (k48:E1.fn _=_) rfl];unfold au at*;generalize ((bB x).map fun p=>qC p.1 p.2)=es at*;simp only[qC,wX,qD,raw,LD,List.map_nil]at*;generalize qs x=s,LL (qn x)=ns,LL (qd x)=ds at*;simp -implicitDefEqProofs [f48,t1,t2]
theorem Ls {S:Nat}(hS:1<=S)(hS2:S<=100000){a:List aJ}(ha:PV S a)(x:Rat)(hx:qz x<=S)(hm:(a.length+1)*(2*S+1)<=4000000):Ca E1 50 [.d (au a),.d (qD x)] (.d (au (dU a (bB x))),none):=by
 have hc:=jk hx;have hl:(bB x).length<=1:=by unfold bB;split<;>simp
 obtain⟨N1,t1⟩:=(vB x (by omega)).any;obtain⟨N2,t2⟩:=(zy hS hS2 ha hc (by
  refine Nat.le_trans (Nat.mul_le_mul_right _ ?_) hm;have:=Nat.mul_le_mul_left a.length hl;omega)).any
 obtain⟨N,hN⟩:∃ N,N=N1+N2:=⟨_,rfl⟩
 replace t1:=t1 N (by omega);replace t2:=t2 N (by omega);refine Ca.a_ (n:=N+100) ?_;rw[ah rfl (k50:E1.fn _=_) rfl];unfold au at*;generalize ((bB x).map fun p=>qC p.1 p.2)=es,((dU a (bB x)).map fun p=>qC p.1 p.2)=es2,(a.map fun p=>qC p.1 p.2)=es3 at*;simp only[qD,raw,LD]at*;generalize qs x=s,LL (qn x)=ns,LL (qd x)=ds at*;simp -implicitDefEqProofs [f50,t1,t2]
def WN (i:Nat):d_:=if i=0 then(1,0,0) else if i=1 then(0,1,0) else(0,0,1)
def ZN (v:Int):Rat:=x_ (v % 13-6) (1+(v.tdiv 13) % 3)
def ad2 (k:Int):Int:=if k % 7=5\/k % 7=6 then 6 else k % 7+1
def ad3 (k:Int):List Int:=if k % 7=5 then [1,2] else if k % 7=6 then [3,4,5] else []
end Fi.S
