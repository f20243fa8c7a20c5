import Derived.Test.YthojoinggmjklaaGreatDoorCN
set_option linter.unusedVariables false
set_option linter.unusedSimpArgs false
noncomputable section
namespace Fi.S
open Go Fi
set_option maxHeartbeats 8000000
def nN:List bN->jA->Rat->List bN
 | [],e,c=>[(e,c)]
 | p::r,e,c=>if jh p.1 e=true then p::nN r e c else if p.1=e then(if c+p.2=0 then r else(e,c+p.2)::r) else(e,c)::p::r
def sS (l:List bN)(e:jA)(c:Rat):List bN:=if eF e=true/\c≠0 then nN l e c else l
theorem Aa {l:List bN}{e:jA}{c:Rat}{p:bN}(h:p ∈ nN l e c):p=(e,c)\/p ∈ l\/∃ y,(e,y) ∈ l/\p=(e,c+y)/\c+y≠0:=by
 induction l with
 | nil=>exact .inl (by simpa[nN] using h)
 | cons q r ih =>
  unfold nN at h;split at h
  ·rcases List.mem_cons.1 h with rfl|h
   ·exact .inr (.inl (List.mem_cons_self ..))
   ·rcases ih h with h|h|⟨y,h1,h2⟩
    ·exact .inl h
    ·exact .inr (.inl (List.mem_cons_of_mem _ h))
    ·exact .inr (.inr ⟨y,List.mem_cons_of_mem _ h1,h2⟩)
  ·split at h
   ·rename_i he;split at h
    ·exact .inr (.inl (List.mem_cons_of_mem _ h))
    ·rename_i hn;rcases List.mem_cons.1 h with rfl|h
     ·obtain⟨a,y⟩:=q;simp only at he;subst he;exact .inr (.inr ⟨y,List.mem_cons_self ..,rfl,hn⟩)
     ·exact .inr (.inl (List.mem_cons_of_mem _ h))
   ·rcases List.mem_cons.1 h with rfl|h
    ·exact .inl rfl
    ·exact .inr (.inl h)
theorem Qu {l:List bN}{e:jA}{c:Rat}(e':jA):tot (nN l e c) e'=tot l e'+if e=e' then c else 0:=by
 induction l with
 | nil=>simp only[nN,tot];grind
 | cons q r ih =>
  obtain⟨a,y⟩:=q;unfold nN;split
  ·simp only[tot,ih];grind
  ·split
   ·rename_i he;simp only at he;subst he;split
    ·rename_i h0;simp only[tot]
     by_cases h:a=e'
     ·subst h;simp only[if_true];grind
     ·simp only[if_neg h];grind
    ·simp only[tot]
     by_cases h:a=e'
     ·subst h;simp only[if_true];grind
     ·simp only[if_neg h];grind
   ·simp only[tot];grind
theorem Qv {l:List bN}{e:jA}{c:Rat}(h:WN l):WN (nN l e c):=by
 induction l with
 | nil=>exact List.pairwise_cons.2 ⟨fun _ h=>(by cases h),List.Pairwise.nil⟩
 | cons q r ih =>
  have h':=List.pairwise_cons.1 h;unfold nN;split
  ·rename_i hlt;refine List.pairwise_cons.2 ⟨fun p hp => ?_,ih h'.2⟩;rcases Aa hp with rfl|hp|⟨y,_,rfl,_⟩
   ·exact hlt
   ·exact h'.1 p hp
   ·exact hlt
  ·rename_i hlt;split
   ·rename_i he;split
    ·exact h'.2
    ·refine List.pairwise_cons.2 ⟨fun p hp => ?_,h'.2⟩;have:=h'.1 p hp;rw[he]at this;exact this
   ·rename_i hne;have hq:jh e q.1=true:=by
     cases h1:jh e q.1 with
     | true=>rfl
     | false=>exact absurd (jy (by simpa using hlt) h1) hne
    refine List.pairwise_cons.2 ⟨fun p hp => ?_,h⟩;rcases List.mem_cons.1 hp with rfl|hp
    ·exact hq
    ·exact kW hq (h'.1 p hp)
theorem Ab (l:List bN)(e:jA)(c:Rat)(e':jA):tot (sS l e c) e'=tot l e'+if eF e=true/\e=e' then c else 0:=by
 unfold sS;split
 ·rename_i h;rw[Qu]
  by_cases h2:e=e'
  ·rw[if_pos h2,if_pos ⟨h.1,h2⟩]
  ·rw[if_neg h2,if_neg (fun h3=>h2 h3.2)]
 ·rename_i h;split
  ·rename_i h2;have:c=0:=Classical.byContradiction fun h3=>h ⟨h2.1,h3⟩
   subst this;grind
  ·grind
theorem U2 {S T U:Nat}{l:List bN}{e:jA}{c:Rat}(h:PV S l)(hS:1<=S)(hT:qz c<=T)(hU:∀ e',qz (tot l e'+if eF e=true/\e=e' then c else 0)<=U):PV U (sS l e c):=by
 have hs:WN (sS l e c):=by
  unfold sS;split
  ·exact Qv h.N_
  ·exact h.N_
 refine⟨hs,fun p hp => ?_,fun p hp => ?_,fun p hp => ?_⟩
 ·unfold sS at hp;split at hp
  ·rename_i hh;rcases Aa hp with rfl|hp|⟨y,_,rfl,hn⟩
   ·exact hh.2
   ·exact h.nz p hp
   ·exact hn
  ·exact h.nz p hp
 ·unfold sS at hp;split at hp
  ·rename_i hh;rcases Aa hp with rfl|hp|⟨y,_,rfl,hn⟩
   ·exact hh.1
   ·exact h.fits p hp
   ·exact hh.1
  ·exact h.fits p hp
 ·have h1:=yI (lD hs) hp;rw[Ab]at h1;rw[<-h1];exact hU _
theorem Cu (e:jA):∀ l:List bN,∃ a b:List bN,l=a++b/\(∀ p ∈ a,jh p.1 e=true)/\(∀ p r,b=p::r->jh p.1 e=false)/\∀ c,nN l e c=a++nN b e c
 | []=>⟨[],[],rfl,fun _ h=>(by cases h),fun _ _ h=>(by cases h),fun _=>rfl⟩
 | q::l=>by
  cases hq:jh q.1 e with
  | true =>
   obtain⟨a,b,h1,h2,h3,h4⟩:=Cu e l;refine⟨q::a,b,by rw[h1];rfl,fun p hp => ?_,h3,fun c => ?_⟩
   ·rcases List.mem_cons.1 hp with rfl|hp
    ·exact hq
    ·exact h2 p hp
   ·show(if jh q.1 e=true then q::nN l e c else _)=_;rw[if_pos hq,h4];rfl
  | false=>exact⟨[],q::l,rfl,fun _ h=>(by cases h),fun p r h=>by cases h;exact hq,fun _=>rfl⟩
end Fi.S
namespace Fi.S
open Go Fi
set_option maxHeartbeats 8000000
theorem yJ (d e:jA):(0<gW d e)↔jh e d=true:=by
 obtain⟨a,b,c⟩:=d;obtain⟨a',b',c'⟩:=e;unfold jh gW ek;simp only[decide_eq_true_eq]
 repeat' split
 all_goals first|omega|simp_all|(simp_all;omega)
theorem Ac (d e:jA):gW d e=0↔d=e:=by
 constructor
 ·intro h;have h1:jh d e=false:=by unfold jh;simp;omega
  have h2:jh e d=false:=by
   cases h3:jh e d with
   | false=>rfl
   | true=>have:=(yJ d e).2 h3;omega
  exact jy h1 h2
 ·rintro rfl;have h1:=dK d;have h2:¬ 0<gW d d:=fun h=>by rw[yJ,h1]at h;cases h
  unfold jh at h1;simp at h1;omega
def Tn:aD:=f84.body.r.r.r.l.bl.lp
def xC (es:List D)(i:Nat)(t5 t6 t7 t8 t9:FV)(L:List ae):St :=
 (st0 [.d (.s 6 es),.u,.r (.loc 0) 0,.u,.d (.v (.int .i64 i)),t5,t6,t7,t8,t9] L)
theorem Qw (es:List D)(i:Nat)(p:bN)(e:jA)(c:Rat)(hi:es[i]?=some (qC p.1 p.2))(hn:es.length<=1000000)(hlt:jh p.1 e=true):Ex E1 Tn (xC es i .u .u .u .u .u [qW (e,c)]) (.norm,xC es (i+1) .u .u .u .u .u [qW (e,c)]):=by
 have hil:i<es.length:=(aT hi)
 have aR:ak .i64 ((i:Int)+1)=(i:Int)+1:=wrap_i64 (by omega);have hk1:((i+1:Nat):Int)=(i:Int)+1:=by omega
 have hk0:(0:Int)<=(i:Int):=by omega
 have hkc:(i:Int)<(es.length:Int):=by omega
 obtain⟨N,t⟩:=(Ca.iP (Ca.bO (jr 0 e p.1))).get;have hpos:0<gW e p.1:=(yJ _ _).2 hlt;refine Ex.of (n:=N+100) ?_;unfold xC;rw[hk1];generalize gW e p.1=r at*;obtain⟨⟨a,b,c'⟩,x⟩:=p;obtain⟨a2,b2,c2⟩:=e;simp only[qW,qC,F3,kH,LD]at*;generalize qs x=s,LL (qn x)=ns,LL (qd x)=ds,qs c=s',LL (qn c)=ns',LL (qd c)=ds' at*;have i1:=idx hi;simp -implicitDefEqProofs[Tn,f84,aR,hk0,hkc,hil,hi,i1,t,hpos]
theorem U3 (es:List D)(e:jA)(c:Rat):Ex E1 Tn (xC es es.length .u .u .u .u .u [qW (e,c)]) (.exit 0,xC es es.length .u .u (.d (.v (.bool false))) .u .u [qW (e,c)]):=by
 refine Ex.of (n:=100) ?_;unfold xC qW;simp -implicitDefEqProofs[Tn,f84]
theorem U4 (es:List D)(i:Nat)(p:bN)(e:jA)(c:Rat)(hi:es[i]?=some (qC p.1 p.2))(hlt:jh p.1 e=false):Ex E1 Tn (xC es i .u .u .u .u .u [qW (e,c)]) (.exit 0,xC es i .u .u (.d (.v (.bool false))) .u .u [qW (e,c)]):=by
 have hil:i<es.length:=(aT hi)
 have hk0:(0:Int)<=(i:Int):=by omega
 have hkc:(i:Int)<(es.length:Int):=by omega
 obtain⟨N,t⟩:=(Ca.iP (Ca.bO (jr 0 e p.1))).get;have hpos:¬ 0<gW e p.1:=fun h=>by rw[yJ,hlt]at h;cases h
 refine Ex.of (n:=N+100) ?_;unfold xC;generalize gW e p.1=r at*;obtain⟨⟨a,b,c'⟩,x⟩:=p;obtain⟨a2,b2,c2⟩:=e;simp only[qW,qC,F3,kH,LD]at*;generalize qs x=s,LL (qn x)=ns,LL (qd x)=ds,qs c=s',LL (qn c)=ns',LL (qd c)=ds' at*;have i1:=idx hi;simp -implicitDefEqProofs[Tn,f84,hk0,hkc,hil,hi,i1,t,hpos]
theorem U5 (a b:List bN)(e:jA)(c:Rat)(hn:(a++b).length<=1000000)(ha:∀ p ∈ a,jh p.1 e=true)(hb:∀ p r,b=p::r->jh p.1 e=false) :
  Ex E1 (.loop Tn) (xC ((a++b).map fun p=>qC p.1 p.2) 0 .u .u .u .u .u [qW (e,c)]) (.exit 0,xC ((a++b).map fun p=>qC p.1 p.2) a.length .u .u (.d (.v (.bool false))) .u .u [qW (e,c)]):=by
 have hlen:((a++b).map fun p=>qC p.1 p.2).length=(a++b).length:=by simp
 obtain⟨r,h1,rfl⟩:=Ex.inv (E:=E1) (b:=Tn) (S:=fun i:Nat=>xC ((a++b).map fun p=>qC p.1 p.2) i .u .u .u .u .u [qW (e,c)]) (fun i=>a.length-i) (fun i=>i<=a.length)
  (fun r=>r=(.exit 0,xC ((a++b).map fun p=>qC p.1 p.2) a.length .u .u (.d (.v (.bool false))) .u .u [qW (e,c)])) (by
   intro i hi
   by_cases h:i<a.length
   ·have hp:((a++b).map fun p=>qC p.1 p.2)[i]?=some (qC a[i].1 a[i].2):=by
     rw[List.getElem?_map,List.getElem?_append_left h,List.getElem?_eq_getElem h];rfl
    exact .inl ⟨i+1,Qw _ i a[i] e c hp (by rw[hlen];exact hn) (ha _ (List.getElem_mem h)),by omega,by omega⟩
   ·obtain rfl:i=a.length:=by omega
    cases b with
    | nil =>
     have:=U3 (a.map fun p:bN=>qC p.1 p.2) e c;rw[List.length_map]at this;simp only[List.append_nil];exact .inr ⟨_,this,by simp,rfl⟩
    | cons p r =>
     have hp:((a++p::r).map fun p=>qC p.1 p.2)[a.length]?=some (qC p.1 p.2):=by
      rw[List.getElem?_map,List.getElem?_append_right (Nat.le_refl _),Nat.sub_self];rfl
     exact .inr ⟨_,U4 _ _ p e c hp (hb p r rfl),by simp,rfl⟩) 0 (Nat.zero_le _)
 exact h1
section
theorem Qx {E:Env}{F:ai}{n:Nat}{c:aD}{st:St}{r:FV × Option (List ae)}(h:(match EX E n c st with|some (.exit _,_)=>none|some (_,st')=>finish F st'|none=>none)=some r) :
  ∃ o st',Ex E c st (o,st')/\(∀ id,o≠.exit id)/\finish F st'=some r:=by
 cases he:EX E n c st with
 | none=>rw[he]at h;cases h
 | some x =>
  obtain⟨o,st'⟩:=x;rw[he]at h;cases o with
  | exit id=>cases h
  | norm=>exact⟨_,_,Ex.of he,fun id hid=>(by cases hid),h⟩
  | ret=>exact⟨_,_,Ex.of he,fun id hid=>(by cases hid),h⟩
theorem iW (av n:Nat)(es:List D)(h:n=es.length):ae.view av 6 0 n (.row av 6 es)=some es:=by
 subst h;simp[ae.view]
section put
variable (es:List D) (e:jA) (c:Rat)
def puA:St:=(st0 [.d (.s 6 es),.u,.r (.loc 0) 0,.u,.u,.u,.u,.u,.u,.u] [qW (e,c)])
theorem abA:Ex E1 f84.body.l (st0 [.d (.s 6 es),.d (qC e c),.u,.u,.u,.u,.u,.u,.u,.u] []) (.norm,puA es e c):=by
 refine Ex.of (n:=60) ?_;unfold puA qW qC F3 LD;simp -implicitDefEqProofs[f84]
theorem Yw (hc:qz c<=100000)(h:¬ (eF e=true/\c≠0)):Ex E1 f84.body.r.l (puA es e c) (.ret,(st0 [.u,.u,.u,.d (.s 6 es),.u,.u,.u,.u,.u,.u] [qW (e,c)])):=by
 obtain⟨N,hN,t1,t2⟩:=((Ca.iP (Ca.bO (nC 0 e))).j ((Ca.iP (lh c (by omega))).any)).at 0;refine Ex.of (n:=N+100) ?_;have hz:eF e=true->c.num.sign=0:=fun hf=>by
  have:c=0:=Classical.byContradiction fun h3=>h ⟨hf,h3⟩
  subst this;rfl
 generalize eF e=f,c.num.sign=sg at*;unfold puA;simp only[qW,kH,qD,raw,LD]at*;generalize qs c=s',LL (qn c)=ns',LL (qd c)=ds' at*;cases f
 ·simp -implicitDefEqProofs[f84,t1]
 ·have:=hz rfl;subst this;simp -implicitDefEqProofs[f84,t1,t2]
theorem Yx (hc:qz c<=100000)(hf:eF e=true)(h0:c≠0):Ex E1 f84.body.r.l (puA es e c) (.norm,(st0 [.d (.s 6 es),.u,.r (.loc 0) 0,.u,.u,.u,.d (.v (.bool false)),.u,.u,.u] [qW (e,c)])):=by
 obtain⟨N,hN,t1,t2⟩:=((Ca.iP (Ca.bO (nC 0 e))).j ((Ca.iP (lh c (by omega))).any)).at 0;have hz:c.num.sign≠0:=fun h=>h0 (Rat.num_eq_zero.1 (Int.sign_eq_zero_iff_zero.1 h))
 refine Ex.of (n:=N+100) ?_;rw[hf]at t1;generalize c.num.sign=sg at*;unfold puA;simp only[qW,kH,qD,raw,LD]at*;generalize qs c=s',LL (qn c)=ns',LL (qd c)=ds' at*;have hz':(sg==0)=false:=by simpa using hz
 simp -implicitDefEqProofs[f84,t1,t2,hz']
theorem abB:Ex E1 f84.body.r.r.l (st0 [.d (.s 6 es),.u,.r (.loc 0) 0,.u,.u,.u,.d (.v (.bool false)),.u,.u,.u] [qW (e,c)]) (.norm,xC es 0 .u .u .u .u .u [qW (e,c)]):=by
 refine Ex.of (n:=60) ?_;unfold xC qW;simp -implicitDefEqProofs[f84]
end put
theorem tk (A:List D)(x:D):List.take (A.length+1) (A++[x])=A++[x]:=by rw[show A.length+1=(A++[x]).length by simp,List.take_length]
theorem hv1 (av:Nat)(A:List D)(x:D):ae.view av 6 0 (A.length+1) (.row av 6 (A++[x]))=some (A++[x]):=iW _ _ _ (by simp)
theorem hv2 (av:Nat)(A:List D)(x y:D)(B':List D):ae.view av 6 0 (A.length+1+(B'.length+1)) (.row av 6 (A++x::y::B'))=some (A++x::y::B'):=iW _ _ _ (by simp;omega)
theorem hv3 (av:Nat)(x y:D)(B':List D):ae.view av 6 0 (1+(B'.length+1)) (.row av 6 (x::y::B'))=some (x::y::B'):=iW _ _ _ (by simp;omega)
theorem hv4 (av:Nat)(A B':List D):ae.view av 6 0 (A.length+B'.length) (.row av 6 (A++B'))=some (A++B'):=iW _ _ _ (by simp)
theorem hv5 (av:Nat)(A:List D)(x:D)(B':List D):ae.view av 6 0 (A.length+1+B'.length) (.row av 6 (A++x::B'))=some (A++x::B'):=iW _ _ _ (by simp;omega)
theorem hv6 (av:Nat)(x:D)(B':List D):ae.view av 6 0 (1+B'.length) (.row av 6 (x::B'))=some (x::B'):=iW _ _ _ (by simp;omega)
theorem hv8 (av:Nat)(x:D):ae.view av 6 0 1 (.row av 6 [x])=some [x]:=iW _ _ _ rfl
theorem hv9 (av:Nat)(B':List D):ae.view av 6 0 B'.length (.row av 6 B')=some B':=iW _ _ _ rfl
theorem Qy (A:List D)(e:jA)(c:Rat)(hn:(A++[]).length<=1000000) :
  ∃ n,(match EX E1 n f84.body.r.r.r.r (xC (A++[]) A.length .u .u (.d (.v (.bool false))) .u .u [qW (e,c)]) with|some (.exit _,_)=>none|some (_,st')=>finish f84 st'|none=>none)=some (.d (.s 6 (A++[qC e c])),none):=by
 rw[List.length_append]at hn;have Tp:(0:Int)<=(A.length:Int):=by omega
 have aR:ak .i64 ((A.length:Int)+1)=(A.length:Int)+1:=wrap_i64 (by omega);have m1:A.length*80<=1099511627776:=by omega
 have m2:A.length<=1099511627776:=by omega
 have m3:(A.length+1)*80<=1099511627776:=by omega
 have m4:A.length+1<=1099511627776:=by omega
 refine⟨200,?_⟩;unfold xC;obtain⟨a2,b2,c2⟩:=e;simp only[qW,qC,F3,LD]at*;generalize qs c=s1,LL (qn c)=ns1,LL (qd c)=ds1 at*
 by_cases hA:A=[]
 ·subst hA;simp -implicitDefEqProofs[f84,jq,Dx,most,hv8]
 ·have hA1:A.isEmpty=false:=by simpa using hA
  simp -implicitDefEqProofs[f84,jq,Dx,most,Tp,tk,hv1,m1,m2,m3,m4,hA1]
theorem Mv (A B':List D)(e:jA)(c:Rat)(p:bN)(hn:(A++qC p.1 p.2::B').length<=1000000)(hne:p.1≠e) :
  ∃ n,(match EX E1 n f84.body.r.r.r.r (xC (A++qC p.1 p.2::B') A.length .u .u (.d (.v (.bool false))) .u .u [qW (e,c)]) with|some (.exit _,_)=>none|some (_,st')=>finish f84 st'|none=>none)=some (.d (.s 6 (A++qC e c::qC p.1 p.2::B')),none):=by
 rw[List.length_append]at hn;have Tp:(0:Int)<=(A.length:Int):=by omega
 have aR:ak .i64 ((A.length:Int)+1)=(A.length:Int)+1:=wrap_i64 (by omega);have m1:A.length*80<=1099511627776:=by omega
 have m2:A.length<=1099511627776:=by omega
 have m3:(A.length+1)*80<=1099511627776:=by omega
 have m4:A.length+1<=1099511627776:=by omega
 rw[List.length_cons]at hn;have m5:(A.length+1+(B'.length+1))*80<=1099511627776:=by omega
 have m6:A.length+1+(B'.length+1)<=1099511627776:=by omega
 have m7:(1+(B'.length+1))*80<=1099511627776:=by omega
 have m8:1+(B'.length+1)<=1099511627776:=by omega
 have k1:(A.length:Int)<(A.length:Int)+((B'.length:Int)+1):=by omega
 have k2:A.length<A.length+(B'.length+1):=by omega
 have k3:¬ (A.length:Int)=(A.length:Int)+((B'.length:Int)+1):=by omega
 have k3':((A.length:Int)==(A.length:Int)+((B'.length:Int)+1))=false:=by simpa using k3
 have k10:((A.length:Int)+((B'.length:Int)+1)).toNat=A.length+(B'.length+1):=by omega
 have k11:((B'.length:Int)+1).toNat=B'.length+1:=by omega
 have w1:ak .i64 1=1:=wrap_i64 (by omega);have k12:A.length+(B'.length+1)-A.length=B'.length+1:=by omega
 have j1:(0:Int)<=(B'.length:Int)+1:=by omega
 have j2:(1:Int)<=(B'.length:Int)+1:=by omega
 have j3:(0:Int)<(B'.length:Int)+1:=by omega
 have k3n:¬ (0:Int)=(B'.length:Int)+1:=by omega
 have k3m:((0:Int)==(B'.length:Int)+1)=false:=by simpa using k3n
 have k4:(A.length:Int)<=(A.length:Int)+((B'.length:Int)+1):=by omega
 obtain⟨N,t⟩:=(Ca.iP (Ca.bO (jr 0 e p.1))).get;have h0:gW e p.1≠0:=fun h=>hne ((Ac _ _).1 h).symm
 have h0':(gW e p.1 != 0)=true:=by simpa using h0
 have hg:∀ x:D,(A++x::B')[A.length]?=some x:=fun x=>by simp
 refine⟨N+200,?_⟩;generalize gW e p.1=r at*;unfold xC;obtain⟨a2,b2,c2⟩:=e;obtain⟨⟨a,b,c'⟩,x⟩:=p;simp only[qW,qC,F3,kH,LD]at*;generalize qs c=s1,LL (qn c)=ns1,LL (qd c)=ds1,qs x=s2,LL (qn x)=ns2,LL (qd x)=ds2 at*
 by_cases hA:A=[]
 ·subst hA;simp (maxSteps:=400000) -implicitDefEqProofs[f84,jq,Dx,most,hv3,t,h0',m7,m8,k3m,j1,k11]
 ·have hA1:A.isEmpty=false:=by simpa using hA
  simp -implicitDefEqProofs[f84,jq,Dx,most,Tp,tk,hv2,m1,m2,m3,m4,hA1,t,h0',m5,m6,k2,k3',k10,k12,k4]
theorem Qz (A B':List D)(e:jA)(c:Rat)(p:bN)(hn:(A++qC p.1 p.2::B').length<=1000000)(he:p.1=e)(hc:qz c<=50000)(hp:qz p.2<=50000)(hs:c+p.2=0) :
  ∃ n,(match EX E1 n f84.body.r.r.r.r (xC (A++qC p.1 p.2::B') A.length .u .u (.d (.v (.bool false))) .u .u [qW (e,c)]) with|some (.exit _,_)=>none|some (_,st')=>finish f84 st'|none=>none)=some (.d (.s 6 (A++B')),none):=by
 rw[List.length_append]at hn;have Tp:(0:Int)<=(A.length:Int):=by omega
 have aR:ak .i64 ((A.length:Int)+1)=(A.length:Int)+1:=wrap_i64 (by omega);have m1:A.length*80<=1099511627776:=by omega
 have m2:A.length<=1099511627776:=by omega
 have m3:(A.length+1)*80<=1099511627776:=by omega
 have m4:A.length+1<=1099511627776:=by omega
 rw[List.length_cons]at hn;have m5:(A.length+1+B'.length)*80<=1099511627776:=by omega
 have m6:A.length+1+B'.length<=1099511627776:=by omega
 have m7:(1+B'.length)*80<=1099511627776:=by omega
 have m8:1+B'.length<=1099511627776:=by omega
 have m9:(A.length+B'.length)*80<=1099511627776:=by omega
 have m10:A.length+B'.length<=1099511627776:=by omega
 have m11:B'.length*80<=1099511627776:=by omega
 have m12:B'.length<=1099511627776:=by omega
 have k1:(A.length:Int)<(A.length:Int)+((B'.length:Int)+1):=by omega
 have k2:A.length<A.length+(B'.length+1):=by omega
 have k3:¬ (A.length:Int)=(A.length:Int)+((B'.length:Int)+1):=by omega
 have k3':((A.length:Int)==(A.length:Int)+((B'.length:Int)+1))=false:=by simpa using k3
 have k10:((A.length:Int)+((B'.length:Int)+1)).toNat=A.length+(B'.length+1):=by omega
 have k11:((B'.length:Int)+1).toNat=B'.length+1:=by omega
 have w1:ak .i64 1=1:=wrap_i64 (by omega);have k12:A.length+(B'.length+1)-A.length=B'.length+1:=by omega
 have j1:(0:Int)<=(B'.length:Int)+1:=by omega
 have j2:(1:Int)<=(B'.length:Int)+1:=by omega
 have j3:(0:Int)<(B'.length:Int)+1:=by omega
 have k3n:¬ (0:Int)=(B'.length:Int)+1:=by omega
 have k3m:((0:Int)==(B'.length:Int)+1)=false:=by simpa using k3n
 have k4:(A.length:Int)<=(A.length:Int)+((B'.length:Int)+1):=by omega
 have k5:(A.length:Int)+1<=(A.length:Int)+((B'.length:Int)+1):=by omega
 have k6:(0:Int)<=(A.length:Int)+1:=by omega
 have k7:((A.length:Int)+1).toNat=A.length+1:=by omega
 have k8:A.length+(B'.length+1)-(A.length+1)=B'.length:=by omega
 subst he;have hz:=vZ c p.2;obtain⟨N,hN,t,t2,t3⟩:=((Ca.iP (Ca.bO (jr 0 p.1 p.1))).j ((Ca.iP (yD c p.2 (by omega) (by omega))).j ((Ca.iP (lh (c+p.2) (by omega))).any))).at 0;rw[(Ac p.1 p.1).2 rfl]at t;have hg:∀ x:D,(A++x::B')[A.length]?=some x:=fun x=>by simp
 have hd:∀ x:D,List.drop (A.length+1) (A++x::B')=B':=fun x=>by rw[<-List.drop_drop];simp
 have hsg:(c+p.2).num.sign=0:=by rw[hs];rfl
 refine⟨N+200,?_⟩;generalize (c+p.2).num.sign=sg at*;generalize c+p.2=y at*;unfold xC;obtain⟨⟨a,b,c'⟩,x⟩:=p;simp only[qW,qC,F3,kH,qD,raw,LD]at*;generalize qs c=s1,LL (qn c)=ns1,LL (qd c)=ds1,qs x=s2,LL (qn x)=ns2,LL (qd x)=ds2,qs y=s3,LL (qn y)=ns3,LL (qd y)=ds3 at*
 by_cases hA:A=[]
 ·subst hA
  by_cases hB:B'=[]
  ·subst hB;simp -implicitDefEqProofs[f84,jq,Dx,most,t,t2,t3,hsg,w1]
  ·have hB1:B'.isEmpty=false:=by simpa using hB
   simp (maxSteps:=400000) -implicitDefEqProofs[f84,jq,Dx,most,t,t2,t3,hsg,m11,m12,k3m,j1,j2,hv9,k11,w1,hB1]
 ·have hA1:A.isEmpty=false:=by simpa using hA
  simp -implicitDefEqProofs[f84,jq,Dx,most,Tp,hv4,aR,m1,m2,t,t2,t3,hsg,m9,m10,k2,k3',k10,k4,k5,k6,k7,k8,hA1,hd]
theorem U6 (A B':List D)(e:jA)(c:Rat)(p:bN)(hn:(A++qC p.1 p.2::B').length<=1000000)(he:p.1=e)(hc:qz c<=50000)(hp:qz p.2<=50000)(hs:c+p.2≠0) :
  ∃ n,(match EX E1 n f84.body.r.r.r.r (xC (A++qC p.1 p.2::B') A.length .u .u (.d (.v (.bool false))) .u .u [qW (e,c)]) with|some (.exit _,_)=>none|some (_,st')=>finish f84 st'|none=>none)=some (.d (.s 6 (A++qC e (c+p.2)::B')),none):=by
 rw[List.length_append]at hn;have Tp:(0:Int)<=(A.length:Int):=by omega
 have aR:ak .i64 ((A.length:Int)+1)=(A.length:Int)+1:=wrap_i64 (by omega);have m1:A.length*80<=1099511627776:=by omega
 have m2:A.length<=1099511627776:=by omega
 have m3:(A.length+1)*80<=1099511627776:=by omega
 have m4:A.length+1<=1099511627776:=by omega
 rw[List.length_cons]at hn;have m5:(A.length+1+B'.length)*80<=1099511627776:=by omega
 have m6:A.length+1+B'.length<=1099511627776:=by omega
 have m7:(1+B'.length)*80<=1099511627776:=by omega
 have m8:1+B'.length<=1099511627776:=by omega
 have m9:(A.length+B'.length)*80<=1099511627776:=by omega
 have m10:A.length+B'.length<=1099511627776:=by omega
 have m11:B'.length*80<=1099511627776:=by omega
 have m12:B'.length<=1099511627776:=by omega
 have k1:(A.length:Int)<(A.length:Int)+((B'.length:Int)+1):=by omega
 have k2:A.length<A.length+(B'.length+1):=by omega
 have k3:¬ (A.length:Int)=(A.length:Int)+((B'.length:Int)+1):=by omega
 have k3':((A.length:Int)==(A.length:Int)+((B'.length:Int)+1))=false:=by simpa using k3
 have k10:((A.length:Int)+((B'.length:Int)+1)).toNat=A.length+(B'.length+1):=by omega
 have k11:((B'.length:Int)+1).toNat=B'.length+1:=by omega
 have w1:ak .i64 1=1:=wrap_i64 (by omega);have k12:A.length+(B'.length+1)-A.length=B'.length+1:=by omega
 have j1:(0:Int)<=(B'.length:Int)+1:=by omega
 have j2:(1:Int)<=(B'.length:Int)+1:=by omega
 have j3:(0:Int)<(B'.length:Int)+1:=by omega
 have k3n:¬ (0:Int)=(B'.length:Int)+1:=by omega
 have k3m:((0:Int)==(B'.length:Int)+1)=false:=by simpa using k3n
 have k4:(A.length:Int)<=(A.length:Int)+((B'.length:Int)+1):=by omega
 have k5:(A.length:Int)+1<=(A.length:Int)+((B'.length:Int)+1):=by omega
 have k6:(0:Int)<=(A.length:Int)+1:=by omega
 have k7:((A.length:Int)+1).toNat=A.length+1:=by omega
 have k8:A.length+(B'.length+1)-(A.length+1)=B'.length:=by omega
 subst he;have hz:=vZ c p.2;obtain⟨N,hN,t,t2,t3⟩:=((Ca.iP (Ca.bO (jr 0 p.1 p.1))).j ((Ca.iP (yD c p.2 (by omega) (by omega))).j ((Ca.iP (lh (c+p.2) (by omega))).any))).at 0;rw[(Ac p.1 p.1).2 rfl]at t;have hg:∀ x:D,(A++x::B')[A.length]?=some x:=fun x=>by simp
 have hd:∀ x:D,List.drop (A.length+1) (A++x::B')=B':=fun x=>by rw[<-List.drop_drop];simp
 have hsg:(c+p.2).num.sign≠0:=fun h=>hs (Rat.num_eq_zero.1 (Int.sign_eq_zero_iff_zero.1 h))
 have abF:((c+p.2).num.sign != 0)=true:=by simpa using hsg
 refine⟨N+200,?_⟩;generalize (c+p.2).num.sign=sg at*;generalize c+p.2=y at*;unfold xC;obtain⟨⟨a,b,c'⟩,x⟩:=p;simp only[qW,qC,F3,kH,qD,raw,LD]at*;generalize qs c=s1,LL (qn c)=ns1,LL (qd c)=ds1,qs x=s2,LL (qn x)=ns2,LL (qd x)=ds2,qs y=s3,LL (qn y)=ns3,LL (qd y)=ds3 at*
 by_cases hA:A=[]
 ·subst hA;simp (maxSteps:=400000) -implicitDefEqProofs[f84,jq,Dx,most,hv6,t,t2,t3,abF,m7,m8,k3m,j1,j2,k11,w1]
 ·have hA1:A.isEmpty=false:=by simpa using hA
  simp -implicitDefEqProofs[f84,jq,Dx,most,Tp,tk,hv5,aR,m1,m2,m3,m4,t,t2,t3,abF,m5,m6,k2,k3',k10,k4,k5,k6,k7,k8,hA1,hd]
end
theorem U7 {l a b:List bN}{e:jA}{c:Rat}(hn:l.length<=1000000)(hl:l=a++b)(ha:∀ p ∈ a,jh p.1 e=true)(hb:∀ p r,b=p::r->jh p.1 e=false)(hc:qz c<=50000)(hp:Bd 50000 l)(hins:nN l e c=a++nN b e c) :
  ∃ n,(match EX E1 n f84.body.r.r.r.r (xC (l.map fun p=>qC p.1 p.2) a.length .u .u (.d (.v (.bool false))) .u .u [qW (e,c)]) with|some (.exit _,_)=>none|some (_,st')=>finish f84 st'|none=>none)=some (.d (.s 6 ((nN l e c).map fun p=>qC p.1 p.2)),none):=by
 subst hl;rw[hins];rw[List.map_append,List.map_append];have hla:(a.map fun p=>qC p.1 p.2).length=a.length:=by simp
 cases b with
 | nil =>
  have h:=Qy (a.map fun p=>qC p.1 p.2) e c (by simpa using hn);rw[hla]at h;exact h
 | cons q r =>
  have hq:=hb q r rfl;have hn':((a.map fun p=>qC p.1 p.2)++qC q.1 q.2::(r.map fun p=>qC p.1 p.2)).length<=1000000:=by simpa using hn
  have hqb:qz q.2<=50000:=hp q (by simp);have hi:nN (q::r) e c=if q.1=e then(if c+q.2=0 then r else(e,c+q.2)::r) else(e,c)::q::r:=by
   show(if jh q.1 e=true then q::nN r e c else _)=_;rw[if_neg (by simp[hq])]
  rw[hi]
  by_cases he:q.1=e
  ·rw[if_pos he]
   by_cases h0:c+q.2=0
   ·rw[if_pos h0];have h:=Qz (a.map fun p=>qC p.1 p.2) (r.map fun p=>qC p.1 p.2) e c q hn' he hc hqb h0;rw[hla]at h;exact h
   ·rw[if_neg h0];have h:=U6 (a.map fun p=>qC p.1 p.2) (r.map fun p=>qC p.1 p.2) e c q hn' he hc hqb h0;rw[hla]at h;exact h
  ·rw[if_neg he];have h:=Mv (a.map fun p=>qC p.1 p.2) (r.map fun p=>qC p.1 p.2) e c q hn' he;rw[hla]at h;exact h
theorem Yy (l:List bN)(e:jA)(c:Rat)(hn:l.length<=1000000)(hb:Bd 50000 l)(hc:qz c<=50000):Ca E1 84 [.d (bF l),.d (qC e c)] (.d (bF (sS l e c)),none):=by
 have hA:=abA (l.map fun p=>qC p.1 p.2) e c
 by_cases h:eF e=true/\c≠0
 ·obtain⟨a,b,h1,h2,h3,h4⟩:=Cu e l;obtain⟨n,hn'⟩:=U7 hn h1 h2 h3 hc hb (h4 c);obtain⟨o,st',hE,ho,hf⟩:=Qx hn';have hput:sS l e c=nN l e c:=if_pos h;rw[hput];have hB:=Yx (l.map fun p=>qC p.1 p.2) e c (by omega) h.1 h.2;have hC:=abB (l.map fun p=>qC p.1 p.2) e c;have hL:Ex E1 (.loop Tn) (xC (l.map fun p=>qC p.1 p.2) 0 .u .u .u .u .u [qW (e,c)]) (.exit 0,xC (l.map fun p=>qC p.1 p.2) a.length .u .u (.d (.v (.bool false))) .u .u [qW (e,c)]):=by
   have:=U5 a b e c (by rw[<-h1];exact hn) h2 h3;rw[<-h1]at this;exact this
  refine Ca.body (o:=o) (st1:=st') rfl (k84:E1.fn _=_) rfl ?_ ho hf;show Ex E1 (.seq f84.body.l (.seq f84.body.r.l (.seq f84.body.r.r.l (.seq (.block 0 (.loop Tn)) f84.body.r.r.r.r)))) _ _;exact hA.seq (hB.seq (hC.seq (hL.block.seq hE)))
 ·have hput:sS l e c=l:=if_neg h;rw[hput];have hB:=Yw (l.map fun p=>qC p.1 p.2) e c (by omega) h;refine Ca.body (o:=.ret) rfl (k84:E1.fn _=_) rfl ?_ (by intro id h;cases h) (st1:=(st0 [.u,.u,.u,.d (.s 6 (l.map fun p=>qC p.1 p.2)),.u,.u,.u,.u,.u,.u] [qW (e,c)])) ?_
  ·show Ex E1 (.seq f84.body.l (.seq f84.body.r.l f84.body.r.r)) _ _;exact hA.seq hB.bD
  ·unfold bF;generalize (l.map fun p=>qC p.1 p.2)=es at*;simp -implicitDefEqProofs[f84]
def Yz:aD:=f86.body.r.r.r.l.r.bl.lp
def Mw (es:List D)(i:Nat)(out t:FV)(L:List ae):St:=(st0 [.d (.s 6 es),.u,out,.d (.v (.int .i64 i)),.u,t] L)
theorem QA (es:List D)(i:Nat)(p:bN)(out:FV)(L:List ae)(xs:List D)(hi:es[i]?=some (qC p.1 p.2))(hn:es.length<=1000000)(hq:qz p.2<=100000)(ho:mR out L xs)(hx:xs.length<=1000000) :
  ∃ out' L',Ex E1 Yz (Mw es i out .u L) (.norm,Mw es (i+1) out' .u L')/\mR out' L' (xs++[qC p.1 p.2]):=by
 have hil:i<es.length:=(aT hi)
 have aR:ak .i64 ((i:Int)+1)=(i:Int)+1:=wrap_i64 (by omega);have hk1:((i+1:Nat):Int)=(i:Int)+1:=by omega
 have hk0:(0:Int)<=(i:Int):=by omega
 have hkc:(i:Int)<(es.length:Int):=by omega
 obtain⟨N,t⟩:=(Ca.iP (jT p.2 (by omega))).get;obtain⟨⟨a,b,c⟩,x⟩:=p;simp only[qC,F3,qD,raw,LD]at*;generalize qs x=s,LL (qn x)=ns,LL (qd x)=ds at*;have i1:=idx hi;rcases ho with ⟨rfl,rfl⟩|⟨j,av,rfl,hrow⟩
 ·refine⟨.ls (.loc L.length) 0 6 0 1,L++[.row 0 6 [.a [.v (.int .i64 a),.v (.int .i64 b),.v (.int .i64 c),.v (.bool s),.s 1 ns,.s 1 ds]]],Ex.of (n:=N+100) ?_,.inr ⟨L.length,0,by simp,by simp⟩⟩;unfold Mw;rw[hk1];simp -implicitDefEqProofs[Yz,f86,aR,hk0,hkc,hil,hi,i1,t,most]
 ·have hm1:(xs.length+1)*80<=1099511627776:=by omega
  have hm2:xs.length+1<=1099511627776:=by omega
  have hjl:j<L.length:=(aT hrow)
  have i2:=idx hrow;refine⟨.ls (.loc j) (av+1) 6 0 (xs.length+1),L.set j (.row (av+1) 6 (xs++[.a [.v (.int .i64 a),.v (.int .i64 b),.v (.int .i64 c),.v (.bool s),.s 1 ns,.s 1 ds]])),Ex.of (n:=N+100) ?_,.inr ⟨j,av+1,by simp,by simp[hjl]⟩⟩;unfold Mw;rw[hk1];simp -implicitDefEqProofs[Yz,f86,aR,hk0,hkc,hil,hi,i1,t,most,hrow,i2,hm1,hm2]
theorem U8 (l:List bN)(hn:l.length<=1000000)(hb:Bd 100000 l) :
  ∃ out L,Ex E1 (.loop Yz) (Mw (l.map fun p=>qC p.1 p.2) 0 (.d (.n 6)) .u []) (.exit 0,Mw (l.map fun p=>qC p.1 p.2) l.length out (.d (.v (.bool false))) L)/\mR out L (l.map fun p=>qC p.1 p.2):=by
 have hlen:(l.map fun p=>qC p.1 p.2).length=l.length:=by simp
 obtain⟨r,h1,out,L,rfl,h3⟩:=Ex.inv (E:=E1) (b:=Yz) (α:=Nat × FV × List ae) (S:=fun a=>Mw (l.map fun p=>qC p.1 p.2) a.1 a.2.1 .u a.2.2) (fun a=>l.length-a.1)
  (fun a=>a.1<=l.length/\mR a.2.1 a.2.2 ((l.take a.1).map fun p=>qC p.1 p.2)) (fun r=>∃ out L,r=(.exit 0,Mw (l.map fun p=>qC p.1 p.2) l.length out (.d (.v (.bool false))) L)/\mR out L (l.map fun p=>qC p.1 p.2)) (by
   rintro⟨i,out,L⟩ ⟨q1,q2⟩;simp only at q1 q2
   by_cases hi:i<l.length
   ·have hp:l[i]?=some l[i]:=List.getElem?_eq_getElem hi;have hp2:(l.map fun p=>qC p.1 p.2)[i]?=some (qC l[i].1 l[i].2):=by rw[List.getElem?_map,hp];rfl
    obtain⟨out',L',g1,g2⟩:=QA _ i l[i] out L _ hp2 (by rw[hlen];exact hn) (hb _ (List.getElem_mem hi)) q2 (by rw[List.length_map,List.length_take];omega);refine .inl ⟨(i+1,out',L'),g1,by show l.length-(i+1)<l.length-i;omega,by show i+1<=_;omega,?_⟩;show mR out' L' ((l.take (i+1)).map fun p=>qC p.1 p.2);rw[List.take_add_one,hp];have e:((l.take i++[l[i]]).map fun p:bN=>qC p.1 p.2)=((l.take i).map fun p=>qC p.1 p.2)++[qC l[i].1 l[i].2]:=by rw[List.map_append];rfl
    show mR out' L' ((l.take i++[l[i]]).map fun p:bN=>qC p.1 p.2);rw[e];exact g2
   ·obtain rfl:i=l.length:=by omega
    rw[List.take_length]at q2;refine .inr ⟨_,Ex.of (n:=60) ?_,?_,out,L,rfl,q2⟩
    ·simp only[Mw];rw[<-hlen];generalize (l.map fun p=>qC p.1 p.2)=es at*;simp -implicitDefEqProofs[Yz,f86]
    ·simp) (0,.d (.n 6),[]) ⟨Nat.zero_le _,.inl ⟨rfl,rfl⟩⟩
 exact⟨out,L,h1,h3⟩
theorem uI {S:Nat}{l:List bN}(h:PV S l)(hS:S<=1000):∃ o,Ca E1 86 [.d (bF l)] (.d (bF l),o)/\o=none:=by
 have hq:=Ch _ (Qr h hS);rw[yH h (fun m hm=>by cases hm),<-D9]at hq;obtain⟨N,t⟩:=(Ca.iP hq).get;have hlen:=h.length;obtain⟨out,L,hl,ho⟩:=U8 l (by omega) (h.bd.mono (by omega));have hA:Ex E1 f86.body.l (st0 [.d (bF l),.u,.u,.u,.u,.u] []) (.norm,(st0 [.d (bF l),.u,.u,.u,.u,.u] [])):=by
  refine Ex.of (n:=60) ?_;generalize bF l=x;simp -implicitDefEqProofs[f86]
 have hB:Ex E1 f86.body.r.l (st0 [.d (bF l),.u,.u,.u,.u,.u] []) (.norm,(st0 [.d (bF l),.u,.u,.u,.d (.v (.bool false)),.u] [])):=by
  refine Ex.of (n:=N+60) ?_;unfold bF at*;generalize (l.map fun p=>qC p.1 p.2)=es at*;simp -implicitDefEqProofs[f86,t]
 have hC:Ex E1 f86.body.r.r.l (st0 [.d (bF l),.u,.u,.u,.d (.v (.bool false)),.u] []) (.norm,(st0 [.d (bF l),.u,.d (.n 6),.u,.u,.u] [])):=by
  refine Ex.of (n:=60) ?_;generalize bF l=x;simp -implicitDefEqProofs[f86]
 have hD:Ex E1 f86.body.r.r.r.l.l (st0 [.d (bF l),.u,.d (.n 6),.u,.u,.u] []) (.norm,Mw (l.map fun p=>qC p.1 p.2) 0 (.d (.n 6)) .u []):=by
  refine Ex.of (n:=60) ?_;unfold Mw bF;generalize (l.map fun p=>qC p.1 p.2)=es at*;simp -implicitDefEqProofs[f86]
 refine⟨none,?_,rfl⟩;have hE:∃ n,(match EX E1 n f86.body.r.r.r.r (Mw (l.map fun p=>qC p.1 p.2) l.length out (.d (.v (.bool false))) L) with|some (.exit _,_)=>none|some (_,st')=>finish f86 st'|none=>none)=some (.d (bF l),none):=by
  refine⟨60,?_⟩;unfold Mw bF;generalize (l.map fun p=>qC p.1 p.2)=es at*;rcases ho with ⟨rfl,rfl⟩|⟨j,av,rfl,hrow⟩
  ·simp -implicitDefEqProofs[f86]
  ·have hv:=iW av es.length es rfl;have i2:=idx hrow;simp -implicitDefEqProofs[f86,hrow,i2,hv]
 obtain⟨n,hE⟩:=hE;obtain⟨o,st',hE,ho',hf⟩:=Qx hE;refine Ca.body (o:=o) (st1:=st') rfl (k86:E1.fn _=_) rfl ?_ ho' hf;show Ex E1 (.seq f86.body.l (.seq f86.body.r.l (.seq f86.body.r.r.l (.seq (.seq f86.body.r.r.r.l.l (.block 0 (.loop Yz))) f86.body.r.r.r.r)))) _ _;exact hA.seq (hB.seq (hC.seq ((hD.seq hl.block).seq hE)))
def l6 (l ms:List bN):List bN:=ms.foldl (fun s p=>sS s p.1 p.2) l
theorem sU (l ms:List bN)(p:bN):l6 l (ms++[p])=sS (l6 l ms) p.1 p.2:=by simp[l6,List.foldl_append]
theorem Cv (l:List bN)(e:jA):∀ ms:List bN,tot (l6 l ms) e=tot l e+tot (ms.filter fun p=>eF p.1) e:=by
 intro ms
 induction ms generalizing l with
 | nil=>simp only[l6,List.foldl_nil,List.filter_nil,tot];grind
 | cons p r ih =>
  show tot (l6 (sS l p.1 p.2) r) e=_;rw[ih,Ab]
  by_cases h:eF p.1=true
  ·rw[List.filter_cons_of_pos (p:=fun p:bN=>eF p.1) h];obtain⟨a,y⟩:=p;simp only at h;simp only[tot,h,true_and];grind
  ·rw[List.filter_cons_of_neg (p:=fun p:bN=>eF p.1) h];simp only[h,false_and,if_false];grind
theorem QB {S T U:Nat}{l:List bN}(h:PV S l)(hS:1<=S)(hSU:S<=U):∀ {ms:List bN},Bd T ms->(∀ k e,qz (tot l e+tot ((ms.take k).filter fun p=>eF p.1) e)<=U)->PV U (l6 l ms):=by
 intro ms hT hU;have main:∀ k,k<=ms.length->PV U (l6 l (ms.take k)):=by
  intro k
  induction k with
  | zero=>intro _;simpa[l6] using h.mono hSU
  | succ k ih =>
   intro hk;have hp:ms[k]?=some ms[k]:=List.getElem?_eq_getElem (by omega);have e1:ms.take (k+1)=ms.take k++[ms[k]]:=by rw[List.take_add_one,hp];rfl
   have h1:=ih (by omega);rw[e1,sU];refine U2 h1 (by omega) (hT _ (List.getElem_mem (by omega))) (fun e' => ?_);have h2:=hU (k+1) e';have h3:=Cv l e' (ms.take (k+1));rw[e1,sU,Ab]at h3;rw[h3,<-e1];exact h2
 have:=main ms.length (Nat.le_refl _)
 rwa [List.take_length]at this
theorem xD {ms:List bN}(h:Fits ms):(ms.filter fun p=>eF p.1)=ms:=List.filter_eq_self.2 (fun p hp=>h p hp)
theorem Je {S T:Nat}(hS:1<=S)(hT:1<=T){a b:List bN}(ha:PV S a)(hb:PV T b)(k:Nat)(e:jA):qz (tot a e+tot ((b.take k).filter fun p=>eF p.1) e)<=S+T+1:=by
 have hf:Fits (b.take k):=fun p hp=>hb.fits p (List.mem_of_mem_take hp)
 rw[xD hf];have h1:=D_ hS (lD ha.N_) ha.bd e;have hk:Keys (b.take k):=List.Nodup.sublist ((List.take_sublist k b).map _) (lD hb.N_);have h2:=D_ hT hk (fun p hp=>hb.bd p (List.mem_of_mem_take hp)) e;have:=vZ (tot a e) (tot (b.take k) e);omega
theorem fold_add {S T:Nat}(hS:1<=S)(hT:1<=T){a b:List bN}(ha:PV S a)(hb:PV T b)(k:Nat):PV (S+T+1) (l6 a (b.take k)):=by
 refine QB (T:=T) ha hS (by omega) (fun p hp=>hb.bd p (List.mem_of_mem_take hp)) (fun j e => ?_);rw[List.take_take];exact Je hS hT ha hb _ e
theorem Gg {S T:Nat}(hS:1<=S)(hT:1<=T){a b:List bN}(ha:PV S a)(hb:PV T b):l6 a b=jB a b:=by
 have h1:=fold_add hS hT ha hb b.length;rw[List.take_length]at h1;refine PV.ext h1 (z_ hS hT ha hb) (fun e => ?_);rw[Cv,Gd,xD hb.fits]
def adL:aD:=f49.body.r.r.l.r.bl.lp
def Oa (b:List D)(acc:D)(i:Nat)(t:FV):St:=(st0 [.u,.d (.s 6 b),.u,.d acc,.d (.v (.int .i64 i)),t] [])
theorem QC (es:List D)(l:List bN)(i:Nat)(p:bN)(hi:es[i]?=some (qC p.1 p.2))(hn:es.length<=1000000)(hl:l.length<=1000000)(hb:Bd 50000 l)(hp:qz p.2<=50000):Ex E1 adL (Oa es (bF l) i .u) (.norm,Oa es (bF (sS l p.1 p.2)) (i+1) .u):=by
 have hil:i<es.length:=(aT hi)
 have aR:ak .i64 ((i:Int)+1)=(i:Int)+1:=wrap_i64 (by omega);have hk1:((i+1:Nat):Int)=(i:Int)+1:=by omega
 have hk0:(0:Int)<=(i:Int):=by omega
 have hkc:(i:Int)<(es.length:Int):=by omega
 obtain⟨N,t⟩:=(Yy l p.1 p.2 hl hb hp).get;refine Ex.of (n:=N+100) ?_;unfold Oa bF at*;rw[hk1];generalize ((sS l p.1 p.2).map fun p=>qC p.1 p.2)=y,(l.map fun p=>qC p.1 p.2)=z at*;simp only[qC,F3,LD]at*;generalize LL (qn p.2)=ns,LL (qd p.2)=ds at*;have i1:=idx hi;simp -implicitDefEqProofs[adL,f49,aR,hk0,hkc,hil,hi,i1,t]
theorem U9 {S:Nat}(hS:1<=S)(hS2:S<=20000){a b:List bN}(ha:PV S a)(hb:PV S b) :
  Ex E1 (.loop adL) (Oa (b.map fun p=>qC p.1 p.2) (bF a) 0 .u) (.exit 0,Oa (b.map fun p=>qC p.1 p.2) (bF (jB a b)) b.length (.d (.v (.bool false)))):=by
 have hlen:(b.map fun p=>qC p.1 p.2).length=b.length:=by simp
 have lb:=hb.length;obtain⟨r,h1,rfl⟩:=Ex.inv (E:=E1) (b:=adL) (S:=fun i:Nat=>Oa (b.map fun p=>qC p.1 p.2) (bF (l6 a (b.take i))) i .u) (fun i=>b.length-i) (fun i=>i<=b.length)
  (fun r=>r=(.exit 0,Oa (b.map fun p=>qC p.1 p.2) (bF (jB a b)) b.length (.d (.v (.bool false))))) (by
   intro i hi
   by_cases h:i<b.length
   ·have hp:b[i]?=some b[i]:=List.getElem?_eq_getElem h;have hp2:(b.map fun p=>qC p.1 p.2)[i]?=some (qC b[i].1 b[i].2):=by rw[List.getElem?_map,hp];rfl
    have hpv:=fold_add hS hS ha hb i;have:=QC _ (l6 a (b.take i)) i b[i] hp2 (by omega) (by have:=hpv.length;omega) (hpv.bd.mono (by omega)) (by have:=hb.bd _ (List.getElem_mem h);omega);refine .inl ⟨i+1,?_,by omega,by omega⟩;have e1:b.take (i+1)=b.take i++[b[i]]:=by rw[List.take_add_one,hp];rfl
    rw[e1,sU];exact this
   ·obtain rfl:i=b.length:=by omega
    refine .inr ⟨_,Ex.of (n:=60) ?_,?_,rfl⟩
    ·rw[List.take_length,Gg hS hS ha hb];unfold Oa;rw[<-hlen];generalize (b.map fun p=>qC p.1 p.2)=es,bF (jB a b)=x at*;simp -implicitDefEqProofs[adL,f49]
    ·simp) 0 (Nat.zero_le _)
 simpa[l6] using h1
theorem QD {S:Nat}(hS:1<=S)(hS2:S<=1000){a b:List bN}(ha:PV S a)(hb:PV S b):Ca E1 49 [.d (bF a),.d (bF b)] (.d (bF (jB a b)),none):=by
 obtain⟨_,h1,rfl⟩:=uI ha hS2;obtain⟨_,h2,rfl⟩:=uI hb hS2;obtain⟨N,hN,t1,t2⟩:=(h1.j h2.any).at 0;have hl:=U9 hS (by omega) ha hb;have hA:Ex E1 f49.body.l (st0 [.d (bF a),.d (bF b),.u,.u,.u,.u] []) (.norm,(st0 [.d (bF a),.d (bF b),.u,.u,.u,.u] [])):=by
  refine Ex.of (n:=60) ?_;generalize bF a=x;generalize bF b=y;simp -implicitDefEqProofs[f49]
 have hB:Ex E1 f49.body.r.l (st0 [.d (bF a),.d (bF b),.u,.u,.u,.u] []) (.norm,(st0 [.u,.d (bF b),.u,.d (bF a),.u,.u] [])):=by
  refine Ex.of (n:=N+60) ?_;unfold bF at*;generalize (a.map fun p=>qC p.1 p.2)=x,(b.map fun p=>qC p.1 p.2)=y at*;simp -implicitDefEqProofs[f49,t1,t2]
 have hC:Ex E1 f49.body.r.r.l.l (st0 [.u,.d (bF b),.u,.d (bF a),.u,.u] []) (.norm,Oa (b.map fun p=>qC p.1 p.2) (bF a) 0 .u):=by
  refine Ex.of (n:=60) ?_;unfold Oa bF;simp -implicitDefEqProofs[f49]
 have hD:Ex E1 f49.body.r.r.r (Oa (b.map fun p=>qC p.1 p.2) (bF (jB a b)) b.length (.d (.v (.bool false)))) (.ret,(st0 [.u,.u,.d (bF (jB a b)),.u,.u,.u] [])):=by
  refine Ex.of (n:=60) ?_;unfold Oa bF;generalize ((jB a b).map fun p=>qC p.1 p.2)=x,(b.map fun p=>qC p.1 p.2)=y at*;simp -implicitDefEqProofs[f49]
 refine Ca.body (o:=.ret) rfl (k49:E1.fn _=_) rfl ?_ (by intro id h;cases h) (st1:=(st0 [.u,.u,.d (bF (jB a b)),.u,.u,.u] [])) ?_
 ·show Ex E1 (.seq f49.body.l (.seq f49.body.r.l (.seq (.seq f49.body.r.r.l.l (.block 0 (.loop adL))) f49.body.r.r.r))) _ _;exact hA.seq (hB.seq ((hC.seq hl.block).seq hD))
 ·unfold bF;generalize ((jB a b).map fun p=>qC p.1 p.2)=x at*;simp -implicitDefEqProofs[f49]
end Fi.S
