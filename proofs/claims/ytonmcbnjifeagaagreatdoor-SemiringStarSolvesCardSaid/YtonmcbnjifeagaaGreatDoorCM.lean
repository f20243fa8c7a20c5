/- Polynomials of package weightedref02. -/
import Derived.Test.YtonmcbnjifeagaaGreatDoorCN
set_option linter.unusedVariables false
set_option linter.unusedSimpArgs false
noncomputable section
namespace Fi.S
open Go Fi
set_option maxHeartbeats 8000000
def insS:List Ent->Ex3->Rat->List Ent
 | [],e,c=>[(e,c)]
 | p::r,e,c=>if ltE p.1 e=true then p::insS r e c else if p.1=e then(if c+p.2=0 then r else(e,c+p.2)::r) else(e,c)::p::r
def putS (l:List Ent)(e:Ex3)(c:Rat):List Ent:=if fitsE e=true/\c≠0 then insS l e c else l
theorem insS_mem {l:List Ent}{e:Ex3}{c:Rat}{p:Ent}(h:p ∈ insS l e c):p=(e,c)\/p ∈ l\/∃ y,(e,y) ∈ l/\p=(e,c+y)/\c+y≠0:=by
 induction l with
 | nil=>exact .inl (by simpa[insS] using h)
 | cons q r ih =>
  unfold insS at h;split at h
  ·rcases List.mem_cons.1 h with rfl|h
   ·exact .inr (.inl (List.mem_cons_self ..))
   ·rcases ih h with h|h|⟨y,h1,h2⟩
    ·exact .inl h
    ·exact .inr (.inl (List.mem_cons_of_mem _ h))
    ·exact .inr (.inr ⟨y,List.mem_cons_of_mem _ h1,h2⟩)
  ·split at h
   ·rename_i he;split at h
    ·exact .inr (.inl (List.mem_cons_of_mem _ h))
    ·rename_i hn;rcases List.mem_cons.1 h with rfl|h
     ·obtain⟨a,y⟩:=q;simp only at he;subst he;exact .inr (.inr ⟨y,List.mem_cons_self ..,rfl,hn⟩)
     ·exact .inr (.inl (List.mem_cons_of_mem _ h))
   ·rcases List.mem_cons.1 h with rfl|h
    ·exact .inl rfl
    ·exact .inr (.inl h)
theorem insS_tot {l:List Ent}{e:Ex3}{c:Rat}(e':Ex3):tot (insS l e c) e'=tot l e'+if e=e' then c else 0:=by
 induction l with
 | nil=>simp only[insS,tot];grind
 | cons q r ih =>
  obtain⟨a,y⟩:=q;unfold insS;split
  ·simp only[tot,ih];grind
  ·split
   ·rename_i he;simp only at he;subst he;split
    ·rename_i h0;simp only[tot]
     by_cases h:a=e'
     ·subst h;simp only[if_true];grind
     ·simp only[if_neg h];grind
    ·simp only[tot]
     by_cases h:a=e'
     ·subst h;simp only[if_true];grind
     ·simp only[if_neg h];grind
   ·simp only[tot];grind
theorem insS_srt {l:List Ent}{e:Ex3}{c:Rat}(h:Srt l):Srt (insS l e c):=by
 induction l with
 | nil=>exact List.pairwise_cons.2 ⟨fun _ h=>(by cases h),List.Pairwise.nil⟩
 | cons q r ih =>
  have h':=List.pairwise_cons.1 h;unfold insS;split
  ·rename_i hlt;refine List.pairwise_cons.2 ⟨fun p hp => ?_,ih h'.2⟩;rcases insS_mem hp with rfl|hp|⟨y,_,rfl,_⟩
   ·exact hlt
   ·exact h'.1 p hp
   ·exact hlt
  ·rename_i hlt;split
   ·rename_i he;split
    ·exact h'.2
    ·refine List.pairwise_cons.2 ⟨fun p hp => ?_,h'.2⟩;have:=h'.1 p hp;rw[he]at this;exact this
   ·rename_i hne;have hq:ltE e q.1=true:=by
     cases h1:ltE e q.1 with
     | true=>rfl
     | false=>exact absurd (ltE_total (by simpa using hlt) h1) hne
    refine List.pairwise_cons.2 ⟨fun p hp => ?_,h⟩;rcases List.mem_cons.1 hp with rfl|hp
    ·exact hq
    ·exact ltE_trans hq (h'.1 p hp)
theorem putS_tot (l:List Ent)(e:Ex3)(c:Rat)(e':Ex3):tot (putS l e c) e'=tot l e'+if fitsE e=true/\e=e' then c else 0:=by
 unfold putS;split
 ·rename_i h;rw[insS_tot]
  by_cases h2:e=e'
  ·rw[if_pos h2,if_pos ⟨h.1,h2⟩]
  ·rw[if_neg h2,if_neg (fun h3=>h2 h3.2)]
 ·rename_i h;split
  ·rename_i h2;have:c=0:=Classical.byContradiction fun h3=>h ⟨h2.1,h3⟩
   subst this;grind
  ·grind
theorem putS_pv {S T U:Nat}{l:List Ent}{e:Ex3}{c:Rat}(h:PV S l)(hS:1<=S)(hT:qz c<=T)(hU:∀ e',qz (tot l e'+if fitsE e=true/\e=e' then c else 0)<=U):PV U (putS l e c):=by
 have hs:Srt (putS l e c):=by
  unfold putS;split
  ·exact insS_srt h.srt
  ·exact h.srt
 refine⟨hs,fun p hp => ?_,fun p hp => ?_,fun p hp => ?_⟩
 ·unfold putS at hp;split at hp
  ·rename_i hh;rcases insS_mem hp with rfl|hp|⟨y,_,rfl,hn⟩
   ·exact hh.2
   ·exact h.nz p hp
   ·exact hn
  ·exact h.nz p hp
 ·unfold putS at hp;split at hp
  ·rename_i hh;rcases insS_mem hp with rfl|hp|⟨y,_,rfl,hn⟩
   ·exact hh.1
   ·exact h.fits p hp
   ·exact hh.1
  ·exact h.fits p hp
 ·have h1:=tot_mem (srt_keys hs) hp;rw[putS_tot]at h1;rw[<-h1];exact hU _
theorem ins_split (e:Ex3):∀ l:List Ent,∃ a b:List Ent,l=a++b/\(∀ p ∈ a,ltE p.1 e=true)/\(∀ p r,b=p::r->ltE p.1 e=false)/\∀ c,insS l e c=a++insS b e c
 | []=>⟨[],[],rfl,fun _ h=>(by cases h),fun _ _ h=>(by cases h),fun _=>rfl⟩
 | q::l=>by
  cases hq:ltE q.1 e with
  | true =>
   obtain⟨a,b,h1,h2,h3,h4⟩:=ins_split e l;refine⟨q::a,b,by rw[h1];rfl,fun p hp => ?_,h3,fun c => ?_⟩
   ·rcases List.mem_cons.1 hp with rfl|hp
    ·exact hq
    ·exact h2 p hp
   ·show(if ltE q.1 e=true then q::insS l e c else _)=_;rw[if_pos hq,h4];rfl
  | false=>exact⟨[],q::l,rfl,fun _ h=>(by cases h),fun p r h=>by cases h;exact hq,fun _=>rfl⟩
end Fi.S
namespace Fi.S
open Go Fi
set_option maxHeartbeats 8000000
attribute [local simp] oo og ci ml mv ld lf fa lo st0 cl ia lr fl ln sv fb mF mi mn bx bc bl pF pT sl EX_skip EX_ret EX_exit EX_kill EX_seq EX_cond EX_block EX_region ROps_nil ROps_cons RK_mov RK_pick RK_bin RK_conv RK_beq RK_aeq RK_nileq RK_un RK_box RK_new RK_load RK_store RK_faddr RK_field RK_iaddr RK_aaddr RK_index RK_build RK_lit RK_len RK_maxi RK_mini RK_app RK_slice RK_mk RK_ext RK_clo RK_call RK_callv RK_callr RK_callw RK_loadl RK_mkmap RK_mget RK_mput RK_cap RK_appz callFull RK_slen RK_sindex RK_sslice guardV runK argV argsV doCall callPure D.cells FV.cells FV.one D.one oneV St.push St.heap St.setHeap splice partF partD s_add s_sub s_mul s_quo s_rem s_or s_and s_xor s_shl s_shr s_eql s_neq s_lss s_leq s_gtr s_geq unV setVars killVars apartOk finish ressV resV leavesL leaves leaveL leave1 allD mkA fillF finish2 isPure oneOf freezeAll FV.rows FV.rows1 D.norm D.norm1 scalar D.isV FV.shift FV.shiftL AObj.shift pureElem fillE elems FStmt.l FStmt.r FStmt.bl FStmt.lp
theorem ord_pos (d e:Ex3):(0<ordE d e)↔ltE e d=true:=by
 obtain⟨a,b,c⟩:=d;obtain⟨a',b',c'⟩:=e;unfold ltE ordE cmpI;simp only[decide_eq_true_eq]
 repeat' split
 all_goals first|omega|simp_all|(simp_all;omega)
theorem ord_zero (d e:Ex3):ordE d e=0↔d=e:=by
 constructor
 ·intro h;have h1:ltE d e=false:=by unfold ltE;simp;omega
  have h2:ltE e d=false:=by
   cases h3:ltE e d with
   | false=>rfl
   | true=>have:=(ord_pos d e).2 h3;omega
  exact ltE_total h1 h2
 ·rintro rfl;have h1:=ltE_irrefl d;have h2:¬ 0<ordE d d:=fun h=>by rw[ord_pos,h1]at h;cases h
  unfold ltE at h1;simp at h1;omega
def puL:FStmt:=f84.body.r.r.r.l.bl.lp
def puS (es:List D)(i:Nat)(t5 t6 t7 t8 t9:FV)(L:List AObj):St :=
 (st0 [.d (.s 6 es),.u,.r (.loc 0) 0,.u,.d (.v (.int .i64 i)),t5,t6,t7,t8,t9] L)
theorem pu_round (es:List D)(i:Nat)(p:Ent)(e:Ex3)(c:Rat)(hi:es[i]?=some (qC p.1 p.2))(hn:es.length<=1000000)(hlt:ltE p.1 e=true):Ex E1 puL (puS es i .u .u .u .u .u [moB (e,c)]) (.norm,puS es (i+1) .u .u .u .u .u [moB (e,c)]):=by
 have hil:i<es.length:=(List.getElem?_eq_some_iff.1 hi).1;have hinc:wrapS .i64 ((i:Int)+1)=(i:Int)+1:=wrap_i64 (by omega);have hk1:((i+1:Nat):Int)=(i:Int)+1:=by omega
 have hk0:(0:Int)<=(i:Int):=by omega
 have hkc:(i:Int)<(es.length:Int):=by omega
 obtain⟨N,t⟩:=(Ca.up1 (Ca.ofS (run_worder 0 e p.1))).get;have hpos:0<ordE e p.1:=(ord_pos _ _).2 hlt;refine Ex.of (n:=N+100) ?_;unfold puS;rw[hk1];generalize ordE e p.1=r at*;obtain⟨⟨a,b,c'⟩,x⟩:=p;obtain⟨a2,b2,c2⟩:=e;simp only[moB,qC,moC,exD,LD]at*;generalize qs x=s,LL (qn x)=ns,LL (qd x)=ds,qs c=s',LL (qn c)=ns',LL (qd c)=ds' at*;have i1:=idx hi;simp -implicitDefEqProofs [puL,f84,hinc,hk0,hkc,hil,hi,i1,t,hpos]
theorem pu_out1 (es:List D)(e:Ex3)(c:Rat):Ex E1 puL (puS es es.length .u .u .u .u .u [moB (e,c)]) (.exit 0,puS es es.length .u .u (.d (.v (.bool false))) .u .u [moB (e,c)]):=by
 refine Ex.of (n:=100) ?_;unfold puS moB;simp -implicitDefEqProofs [puL,f84]
theorem pu_out2 (es:List D)(i:Nat)(p:Ent)(e:Ex3)(c:Rat)(hi:es[i]?=some (qC p.1 p.2))(hlt:ltE p.1 e=false):Ex E1 puL (puS es i .u .u .u .u .u [moB (e,c)]) (.exit 0,puS es i .u .u (.d (.v (.bool false))) .u .u [moB (e,c)]):=by
 have hil:i<es.length:=(List.getElem?_eq_some_iff.1 hi).1;have hk0:(0:Int)<=(i:Int):=by omega
 have hkc:(i:Int)<(es.length:Int):=by omega
 obtain⟨N,t⟩:=(Ca.up1 (Ca.ofS (run_worder 0 e p.1))).get;have hpos:¬ 0<ordE e p.1:=fun h=>by rw[ord_pos,hlt]at h;cases h
 refine Ex.of (n:=N+100) ?_;unfold puS;generalize ordE e p.1=r at*;obtain⟨⟨a,b,c'⟩,x⟩:=p;obtain⟨a2,b2,c2⟩:=e;simp only[moB,qC,moC,exD,LD]at*;generalize qs x=s,LL (qn x)=ns,LL (qd x)=ds,qs c=s',LL (qn c)=ns',LL (qd c)=ds' at*;have i1:=idx hi;simp -implicitDefEqProofs [puL,f84,hk0,hkc,hil,hi,i1,t,hpos]
theorem pu_loop (a b:List Ent)(e:Ex3)(c:Rat)(hn:(a++b).length<=1000000)(ha:∀ p ∈ a,ltE p.1 e=true)(hb:∀ p r,b=p::r->ltE p.1 e=false) :
  Ex E1 (.loop puL) (puS ((a++b).map fun p=>qC p.1 p.2) 0 .u .u .u .u .u [moB (e,c)]) (.exit 0,puS ((a++b).map fun p=>qC p.1 p.2) a.length .u .u (.d (.v (.bool false))) .u .u [moB (e,c)]):=by
 have hlen:((a++b).map fun p=>qC p.1 p.2).length=(a++b).length:=by simp
 obtain⟨r,h1,rfl⟩:=Ex.inv (E:=E1) (b:=puL) (S:=fun i:Nat=>puS ((a++b).map fun p=>qC p.1 p.2) i .u .u .u .u .u [moB (e,c)]) (fun i=>a.length-i) (fun i=>i<=a.length)
  (fun r=>r=(.exit 0,puS ((a++b).map fun p=>qC p.1 p.2) a.length .u .u (.d (.v (.bool false))) .u .u [moB (e,c)])) (by
   intro i hi
   by_cases h:i<a.length
   ·have hp:((a++b).map fun p=>qC p.1 p.2)[i]?=some (qC a[i].1 a[i].2):=by
     rw[List.getElem?_map,List.getElem?_append_left h,List.getElem?_eq_getElem h];rfl
    exact .inl ⟨i+1,pu_round _ i a[i] e c hp (by rw[hlen];exact hn) (ha _ (List.getElem_mem h)),by omega,by omega⟩
   ·obtain rfl:i=a.length:=by omega
    cases b with
    | nil =>
     have:=pu_out1 (a.map fun p:Ent=>qC p.1 p.2) e c;rw[List.length_map]at this;simp only[List.append_nil];exact .inr ⟨_,this,by simp,rfl⟩
    | cons p r =>
     have hp:((a++p::r).map fun p=>qC p.1 p.2)[a.length]?=some (qC p.1 p.2):=by
      rw[List.getElem?_map,List.getElem?_append_right (Nat.le_refl _),Nat.sub_self];rfl
     exact .inr ⟨_,pu_out2 _ _ p e c hp (hb p r rfl),by simp,rfl⟩) 0 (Nat.zero_le _)
 exact h1
section
theorem fin_of {E:Env}{F:FFunc}{n:Nat}{c:FStmt}{st:St}{r:FV × Option (List AObj)}(h:(match EX E n c st with|some (.exit _,_)=>none|some (_,st')=>finish F st'|none=>none)=some r) :
  ∃ o st',Ex E c st (o,st')/\(∀ id,o≠.exit id)/\finish F st'=some r:=by
 cases he:EX E n c st with
 | none=>rw[he]at h;cases h
 | some x =>
  obtain⟨o,st'⟩:=x;rw[he]at h;cases o with
  | exit id=>cases h
  | norm=>exact⟨_,_,Ex.of he,fun id hid=>(by cases hid),h⟩
  | ret=>exact⟨_,_,Ex.of he,fun id hid=>(by cases hid),h⟩
theorem view_row (ver n:Nat)(es:List D)(h:n=es.length):AObj.view ver 6 0 n (.row ver 6 es)=some es:=by
 subst h;simp[AObj.view]
section put
variable (es:List D) (e:Ex3) (c:Rat)
def puA:St:=(st0 [.d (.s 6 es),.u,.r (.loc 0) 0,.u,.u,.u,.u,.u,.u,.u] [moB (e,c)])
theorem put_A:Ex E1 f84.body.l (st0 [.d (.s 6 es),.d (qC e c),.u,.u,.u,.u,.u,.u,.u,.u] []) (.norm,puA es e c):=by
 refine Ex.of (n:=60) ?_;unfold puA moB qC moC LD;simp -implicitDefEqProofs [f84]
theorem put_B1 (hc:qz c<=100000)(h:¬ (fitsE e=true/\c≠0)):Ex E1 f84.body.r.l (puA es e c) (.ret,(st0 [.u,.u,.u,.d (.s 6 es),.u,.u,.u,.u,.u,.u] [moB (e,c)])):=by
 obtain⟨N1,t1⟩:=(Ca.up1 (Ca.ofS (run_possible 0 e))).any;obtain⟨N2,t2⟩:=(Ca.up1 (ca_wsign c (by omega))).any;obtain⟨N,hN⟩:∃ N,N=N1+N2:=⟨_,rfl⟩
 replace t1:=t1 N (by omega);replace t2:=t2 N (by omega);refine Ex.of (n:=N+100) ?_;have hz:fitsE e=true->c.num.sign=0:=fun hf=>by
  have:c=0:=Classical.byContradiction fun h3=>h ⟨hf,h3⟩
  subst this;rfl
 generalize fitsE e=f,c.num.sign=sg at*;unfold puA;simp only[moB,exD,qD,raw,LD]at*;generalize qs c=s',LL (qn c)=ns',LL (qd c)=ds' at*;cases f
 ·simp -implicitDefEqProofs [f84,t1,t2]
 ·have:=hz rfl;subst this;simp -implicitDefEqProofs [f84,t1,t2]
theorem put_B2 (hc:qz c<=100000)(hf:fitsE e=true)(h0:c≠0):Ex E1 f84.body.r.l (puA es e c) (.norm,(st0 [.d (.s 6 es),.u,.r (.loc 0) 0,.u,.u,.u,.d (.v (.bool false)),.u,.u,.u] [moB (e,c)])):=by
 obtain⟨N1,t1⟩:=(Ca.up1 (Ca.ofS (run_possible 0 e))).any;obtain⟨N2,t2⟩:=(Ca.up1 (ca_wsign c (by omega))).any;obtain⟨N,hN⟩:∃ N,N=N1+N2:=⟨_,rfl⟩
 replace t1:=t1 N (by omega);replace t2:=t2 N (by omega);have hz:c.num.sign≠0:=fun h=>h0 (Rat.num_eq_zero.1 (Int.sign_eq_zero_iff_zero.1 h))
 refine Ex.of (n:=N+100) ?_;rw[hf]at t1;generalize c.num.sign=sg at*;unfold puA;simp only[moB,exD,qD,raw,LD]at*;generalize qs c=s',LL (qn c)=ns',LL (qd c)=ds' at*;have hz':(sg==0)=false:=by simpa using hz
 simp -implicitDefEqProofs [f84,t1,t2,hz,hz']
theorem put_C:Ex E1 f84.body.r.r.l (st0 [.d (.s 6 es),.u,.r (.loc 0) 0,.u,.u,.u,.d (.v (.bool false)),.u,.u,.u] [moB (e,c)]) (.norm,puS es 0 .u .u .u .u .u [moB (e,c)]):=by
 refine Ex.of (n:=60) ?_;unfold puS moB;simp -implicitDefEqProofs [f84]
end put
theorem tk (A:List D)(x:D):List.take (A.length+1) (A++[x])=A++[x]:=by rw[show A.length+1=(A++[x]).length by simp,List.take_length]
theorem hv1 (ver:Nat)(A:List D)(x:D):AObj.view ver 6 0 (A.length+1) (.row ver 6 (A++[x]))=some (A++[x]):=view_row _ _ _ (by simp)
theorem hv2 (ver:Nat)(A:List D)(x y:D)(B':List D):AObj.view ver 6 0 (A.length+1+(B'.length+1)) (.row ver 6 (A++x::y::B'))=some (A++x::y::B'):=view_row _ _ _ (by simp;omega)
theorem hv3 (ver:Nat)(x y:D)(B':List D):AObj.view ver 6 0 (1+(B'.length+1)) (.row ver 6 (x::y::B'))=some (x::y::B'):=view_row _ _ _ (by simp;omega)
theorem hv4 (ver:Nat)(A B':List D):AObj.view ver 6 0 (A.length+B'.length) (.row ver 6 (A++B'))=some (A++B'):=view_row _ _ _ (by simp)
theorem hv5 (ver:Nat)(A:List D)(x:D)(B':List D):AObj.view ver 6 0 (A.length+1+B'.length) (.row ver 6 (A++x::B'))=some (A++x::B'):=view_row _ _ _ (by simp;omega)
theorem hv6 (ver:Nat)(x:D)(B':List D):AObj.view ver 6 0 (1+B'.length) (.row ver 6 (x::B'))=some (x::B'):=view_row _ _ _ (by simp;omega)
theorem hv7 (ver:Nat)(x:D)(B':List D):AObj.view ver 6 0 (B'.length+1) (.row ver 6 (x::B'))=some (x::B'):=view_row _ _ _ (by simp)
theorem hv8 (ver:Nat)(x:D):AObj.view ver 6 0 1 (.row ver 6 [x])=some [x]:=view_row _ _ _ rfl
theorem hv9 (ver:Nat)(B':List D):AObj.view ver 6 0 B'.length (.row ver 6 B')=some B':=view_row _ _ _ rfl
theorem put_last (A:List D)(e:Ex3)(c:Rat)(hn:(A++[]).length<=1000000) :
  ∃ n,(match EX E1 n f84.body.r.r.r.r (puS (A++[]) A.length .u .u (.d (.v (.bool false))) .u .u [moB (e,c)]) with|some (.exit _,_)=>none|some (_,st')=>finish f84 st'|none=>none)=some (.d (.s 6 (A++[qC e c])),none):=by
 rw[List.length_append]at hn;have hA0:(0:Int)<=(A.length:Int):=by omega
 have hinc:wrapS .i64 ((A.length:Int)+1)=(A.length:Int)+1:=wrap_i64 (by omega);have m1:A.length*80<=1099511627776:=by omega
 have m2:A.length<=1099511627776:=by omega
 have m3:(A.length+1)*80<=1099511627776:=by omega
 have m4:A.length+1<=1099511627776:=by omega
 refine⟨200,?_⟩;unfold puS;obtain⟨a2,b2,c2⟩:=e;simp only[moB,qC,moC,LD]at*;generalize qs c=s1,LL (qn c)=ns1,LL (qd c)=ds1 at*
 by_cases hA:A=[]
 ·subst hA;simp -implicitDefEqProofs [f84,oneI,asI,most,FV.toOld,FV.toOldL,AObj.toOld,hA0,tk,hv1,hv2,hv3,hv4,hv5,hv6,hv7,hv8,hinc,m1,m2,m3,m4]
 ·have hA1:A.isEmpty=false:=by simpa using hA
  simp -implicitDefEqProofs [f84,oneI,asI,most,FV.toOld,FV.toOldL,AObj.toOld,hA0,tk,hv1,hv2,hv3,hv4,hv5,hv6,hv7,hv8,hinc,m1,m2,m3,m4,hA,hA1]
theorem put_ahead (A B':List D)(e:Ex3)(c:Rat)(p:Ent)(hn:(A++qC p.1 p.2::B').length<=1000000)(hne:p.1≠e) :
  ∃ n,(match EX E1 n f84.body.r.r.r.r (puS (A++qC p.1 p.2::B') A.length .u .u (.d (.v (.bool false))) .u .u [moB (e,c)]) with|some (.exit _,_)=>none|some (_,st')=>finish f84 st'|none=>none)=some (.d (.s 6 (A++qC e c::qC p.1 p.2::B')),none):=by
 rw[List.length_append]at hn;have hA0:(0:Int)<=(A.length:Int):=by omega
 have hinc:wrapS .i64 ((A.length:Int)+1)=(A.length:Int)+1:=wrap_i64 (by omega);have m1:A.length*80<=1099511627776:=by omega
 have m2:A.length<=1099511627776:=by omega
 have m3:(A.length+1)*80<=1099511627776:=by omega
 have m4:A.length+1<=1099511627776:=by omega
 rw[List.length_cons]at hn;have m5:(A.length+1+(B'.length+1))*80<=1099511627776:=by omega
 have m6:A.length+1+(B'.length+1)<=1099511627776:=by omega
 have m7:(1+(B'.length+1))*80<=1099511627776:=by omega
 have m8:1+(B'.length+1)<=1099511627776:=by omega
 have k1:(A.length:Int)<(A.length:Int)+((B'.length:Int)+1):=by omega
 have k2:A.length<A.length+(B'.length+1):=by omega
 have k3:¬ (A.length:Int)=(A.length:Int)+((B'.length:Int)+1):=by omega
 have k3':((A.length:Int)==(A.length:Int)+((B'.length:Int)+1))=false:=by simpa using k3
 have k10:((A.length:Int)+((B'.length:Int)+1)).toNat=A.length+(B'.length+1):=by omega
 have k11:((B'.length:Int)+1).toNat=B'.length+1:=by omega
 have w1:wrapS .i64 1=1:=wrap_i64 (by omega);have k12:A.length+(B'.length+1)-A.length=B'.length+1:=by omega
 have j1:(0:Int)<=(B'.length:Int)+1:=by omega
 have j2:(1:Int)<=(B'.length:Int)+1:=by omega
 have j3:(0:Int)<(B'.length:Int)+1:=by omega
 have k3n:¬ (0:Int)=(B'.length:Int)+1:=by omega
 have k3m:((0:Int)==(B'.length:Int)+1)=false:=by simpa using k3n
 have k4:(A.length:Int)<=(A.length:Int)+((B'.length:Int)+1):=by omega
 obtain⟨N,t⟩:=(Ca.up1 (Ca.ofS (run_worder 0 e p.1))).get;have h0:ordE e p.1≠0:=fun h=>hne ((ord_zero _ _).1 h).symm
 have h0':(ordE e p.1 != 0)=true:=by simpa using h0
 have hg:∀ x:D,(A++x::B')[A.length]?=some x:=fun x=>by simp
 refine⟨N+200,?_⟩;generalize ordE e p.1=r at*;unfold puS;obtain⟨a2,b2,c2⟩:=e;obtain⟨⟨a,b,c'⟩,x⟩:=p;simp only[moB,qC,moC,exD,LD]at*;generalize qs c=s1,LL (qn c)=ns1,LL (qd c)=ds1,qs x=s2,LL (qn x)=ns2,LL (qd x)=ds2 at*
 by_cases hA:A=[]
 ·subst hA;simp (maxSteps:=400000) -implicitDefEqProofs [f84,oneI,asI,most,FV.toOld,FV.toOldL,AObj.toOld,hA0,tk,hv1,hv2,hv3,hv4,hv5,hv6,hv7,hv8,hinc,m1,m2,m3,m4,t,h0,h0',m5,m6,m7,m8,k1,k2,k3,k3',k3n,k3m,j1,j2,j3,hv9,k10,k11,k12,w1,k4]
 ·have hA1:A.isEmpty=false:=by simpa using hA
  simp -implicitDefEqProofs [f84,oneI,asI,most,FV.toOld,FV.toOldL,AObj.toOld,hA0,tk,hv1,hv2,hv3,hv4,hv5,hv6,hv7,hv8,hinc,m1,m2,m3,m4,hA,hA1,t,h0,h0',hg,m5,m6,m7,m8,k1,k2,k3,k3',k3n,k3m,j1,j2,j3,hv9,k10,k11,k12,w1,k4]
theorem put_gone (A B':List D)(e:Ex3)(c:Rat)(p:Ent)(hn:(A++qC p.1 p.2::B').length<=1000000)(he:p.1=e)(hc:qz c<=50000)(hp:qz p.2<=50000)(hs:c+p.2=0) :
  ∃ n,(match EX E1 n f84.body.r.r.r.r (puS (A++qC p.1 p.2::B') A.length .u .u (.d (.v (.bool false))) .u .u [moB (e,c)]) with|some (.exit _,_)=>none|some (_,st')=>finish f84 st'|none=>none)=some (.d (.s 6 (A++B')),none):=by
 rw[List.length_append]at hn;have hA0:(0:Int)<=(A.length:Int):=by omega
 have hinc:wrapS .i64 ((A.length:Int)+1)=(A.length:Int)+1:=wrap_i64 (by omega);have m1:A.length*80<=1099511627776:=by omega
 have m2:A.length<=1099511627776:=by omega
 have m3:(A.length+1)*80<=1099511627776:=by omega
 have m4:A.length+1<=1099511627776:=by omega
 rw[List.length_cons]at hn;have m5:(A.length+1+B'.length)*80<=1099511627776:=by omega
 have m6:A.length+1+B'.length<=1099511627776:=by omega
 have m7:(1+B'.length)*80<=1099511627776:=by omega
 have m8:1+B'.length<=1099511627776:=by omega
 have m9:(A.length+B'.length)*80<=1099511627776:=by omega
 have m10:A.length+B'.length<=1099511627776:=by omega
 have m11:B'.length*80<=1099511627776:=by omega
 have m12:B'.length<=1099511627776:=by omega
 have k1:(A.length:Int)<(A.length:Int)+((B'.length:Int)+1):=by omega
 have k2:A.length<A.length+(B'.length+1):=by omega
 have k3:¬ (A.length:Int)=(A.length:Int)+((B'.length:Int)+1):=by omega
 have k3':((A.length:Int)==(A.length:Int)+((B'.length:Int)+1))=false:=by simpa using k3
 have k10:((A.length:Int)+((B'.length:Int)+1)).toNat=A.length+(B'.length+1):=by omega
 have k11:((B'.length:Int)+1).toNat=B'.length+1:=by omega
 have w1:wrapS .i64 1=1:=wrap_i64 (by omega);have k12:A.length+(B'.length+1)-A.length=B'.length+1:=by omega
 have j1:(0:Int)<=(B'.length:Int)+1:=by omega
 have j2:(1:Int)<=(B'.length:Int)+1:=by omega
 have j3:(0:Int)<(B'.length:Int)+1:=by omega
 have k3n:¬ (0:Int)=(B'.length:Int)+1:=by omega
 have k3m:((0:Int)==(B'.length:Int)+1)=false:=by simpa using k3n
 have k4:(A.length:Int)<=(A.length:Int)+((B'.length:Int)+1):=by omega
 have k5:(A.length:Int)+1<=(A.length:Int)+((B'.length:Int)+1):=by omega
 have k6:(0:Int)<=(A.length:Int)+1:=by omega
 have k7:((A.length:Int)+1).toNat=A.length+1:=by omega
 have k8:A.length+(B'.length+1)-(A.length+1)=B'.length:=by omega
 subst he;have hz:=qz_add c p.2;obtain⟨N1,t⟩:=(Ca.up1 (Ca.ofS (run_worder 0 p.1 p.1))).any;obtain⟨N2,t2⟩:=(Ca.up1 (ca_wadd c p.2 (by omega) (by omega))).any;obtain⟨N3,t3⟩:=(Ca.up1 (ca_wsign (c+p.2) (by omega))).any;obtain⟨N,hN⟩:∃ N,N=N1+N2+N3:=⟨_,rfl⟩
 replace t:=t N (by omega);replace t2:=t2 N (by omega);replace t3:=t3 N (by omega);rw[(ord_zero p.1 p.1).2 rfl]at t;have hg:∀ x:D,(A++x::B')[A.length]?=some x:=fun x=>by simp
 have hd:∀ x:D,List.drop (A.length+1) (A++x::B')=B':=fun x=>by rw[<-List.drop_drop];simp
 have hsg:(c+p.2).num.sign=0:=by rw[hs];rfl
 refine⟨N+200,?_⟩;generalize (c+p.2).num.sign=sg at*;generalize c+p.2=y at*;unfold puS;obtain⟨⟨a,b,c'⟩,x⟩:=p;simp only[moB,qC,moC,exD,qD,raw,LD]at*;generalize qs c=s1,LL (qn c)=ns1,LL (qd c)=ds1,qs x=s2,LL (qn x)=ns2,LL (qd x)=ds2,qs y=s3,LL (qn y)=ns3,LL (qd y)=ds3 at*
 by_cases hA:A=[]
 ·subst hA
  by_cases hB:B'=[]
  ·subst hB;simp -implicitDefEqProofs [f84,oneI,asI,most,FV.toOld,FV.toOldL,AObj.toOld,hA0,tk,hv1,hv2,hv3,hv4,hv5,hv6,hv7,hv8,hinc,m1,m2,m3,m4,t,t2,t3,hsg,m5,m6,m7,m8,m9,m10,m11,m12,k1,k2,k3,k3',k3n,k3m,j1,j2,j3,hv9,k10,k11,k12,w1,k4,k5,k6,k7,k8]
  ·have hB1:B'.isEmpty=false:=by simpa using hB
   simp (maxSteps:=400000) -implicitDefEqProofs [f84,oneI,asI,most,FV.toOld,FV.toOldL,AObj.toOld,hA0,tk,hv1,hv2,hv3,hv4,hv5,hv6,hv7,hv8,hinc,m1,m2,m3,m4,t,t2,t3,hsg,m5,m6,m7,m8,m9,m10,m11,m12,k1,k2,k3,k3',k3n,k3m,j1,j2,j3,hv9,k10,k11,k12,w1,k4,k5,k6,k7,k8,hB,hB1]
 ·have hA1:A.isEmpty=false:=by simpa using hA
  simp -implicitDefEqProofs [f84,oneI,asI,most,FV.toOld,FV.toOldL,AObj.toOld,hA0,tk,hv1,hv2,hv3,hv4,hv5,hv6,hv7,hv8,hinc,m1,m2,m3,m4,t,t2,t3,hsg,m5,m6,m7,m8,m9,m10,m11,m12,k1,k2,k3,k3',k3n,k3m,j1,j2,j3,hv9,k10,k11,k12,w1,k4,k5,k6,k7,k8,hA,hA1,hg,hd]
theorem put_sum (A B':List D)(e:Ex3)(c:Rat)(p:Ent)(hn:(A++qC p.1 p.2::B').length<=1000000)(he:p.1=e)(hc:qz c<=50000)(hp:qz p.2<=50000)(hs:c+p.2≠0) :
  ∃ n,(match EX E1 n f84.body.r.r.r.r (puS (A++qC p.1 p.2::B') A.length .u .u (.d (.v (.bool false))) .u .u [moB (e,c)]) with|some (.exit _,_)=>none|some (_,st')=>finish f84 st'|none=>none)=some (.d (.s 6 (A++qC e (c+p.2)::B')),none):=by
 rw[List.length_append]at hn;have hA0:(0:Int)<=(A.length:Int):=by omega
 have hinc:wrapS .i64 ((A.length:Int)+1)=(A.length:Int)+1:=wrap_i64 (by omega);have m1:A.length*80<=1099511627776:=by omega
 have m2:A.length<=1099511627776:=by omega
 have m3:(A.length+1)*80<=1099511627776:=by omega
 have m4:A.length+1<=1099511627776:=by omega
 rw[List.length_cons]at hn;have m5:(A.length+1+B'.length)*80<=1099511627776:=by omega
 have m6:A.length+1+B'.length<=1099511627776:=by omega
 have m7:(1+B'.length)*80<=1099511627776:=by omega
 have m8:1+B'.length<=1099511627776:=by omega
 have m9:(A.length+B'.length)*80<=1099511627776:=by omega
 have m10:A.length+B'.length<=1099511627776:=by omega
 have m11:B'.length*80<=1099511627776:=by omega
 have m12:B'.length<=1099511627776:=by omega
 have k1:(A.length:Int)<(A.length:Int)+((B'.length:Int)+1):=by omega
 have k2:A.length<A.length+(B'.length+1):=by omega
 have k3:¬ (A.length:Int)=(A.length:Int)+((B'.length:Int)+1):=by omega
 have k3':((A.length:Int)==(A.length:Int)+((B'.length:Int)+1))=false:=by simpa using k3
 have k10:((A.length:Int)+((B'.length:Int)+1)).toNat=A.length+(B'.length+1):=by omega
 have k11:((B'.length:Int)+1).toNat=B'.length+1:=by omega
 have w1:wrapS .i64 1=1:=wrap_i64 (by omega);have k12:A.length+(B'.length+1)-A.length=B'.length+1:=by omega
 have j1:(0:Int)<=(B'.length:Int)+1:=by omega
 have j2:(1:Int)<=(B'.length:Int)+1:=by omega
 have j3:(0:Int)<(B'.length:Int)+1:=by omega
 have k3n:¬ (0:Int)=(B'.length:Int)+1:=by omega
 have k3m:((0:Int)==(B'.length:Int)+1)=false:=by simpa using k3n
 have k4:(A.length:Int)<=(A.length:Int)+((B'.length:Int)+1):=by omega
 have k5:(A.length:Int)+1<=(A.length:Int)+((B'.length:Int)+1):=by omega
 have k6:(0:Int)<=(A.length:Int)+1:=by omega
 have k7:((A.length:Int)+1).toNat=A.length+1:=by omega
 have k8:A.length+(B'.length+1)-(A.length+1)=B'.length:=by omega
 subst he;have hz:=qz_add c p.2;obtain⟨N1,t⟩:=(Ca.up1 (Ca.ofS (run_worder 0 p.1 p.1))).any;obtain⟨N2,t2⟩:=(Ca.up1 (ca_wadd c p.2 (by omega) (by omega))).any;obtain⟨N3,t3⟩:=(Ca.up1 (ca_wsign (c+p.2) (by omega))).any;obtain⟨N,hN⟩:∃ N,N=N1+N2+N3:=⟨_,rfl⟩
 replace t:=t N (by omega);replace t2:=t2 N (by omega);replace t3:=t3 N (by omega);rw[(ord_zero p.1 p.1).2 rfl]at t;have hg:∀ x:D,(A++x::B')[A.length]?=some x:=fun x=>by simp
 have hd:∀ x:D,List.drop (A.length+1) (A++x::B')=B':=fun x=>by rw[<-List.drop_drop];simp
 have hsg:(c+p.2).num.sign≠0:=fun h=>hs (Rat.num_eq_zero.1 (Int.sign_eq_zero_iff_zero.1 h))
 have hsg':((c+p.2).num.sign != 0)=true:=by simpa using hsg
 refine⟨N+200,?_⟩;generalize (c+p.2).num.sign=sg at*;generalize c+p.2=y at*;unfold puS;obtain⟨⟨a,b,c'⟩,x⟩:=p;simp only[moB,qC,moC,exD,qD,raw,LD]at*;generalize qs c=s1,LL (qn c)=ns1,LL (qd c)=ds1,qs x=s2,LL (qn x)=ns2,LL (qd x)=ds2,qs y=s3,LL (qn y)=ns3,LL (qd y)=ds3 at*
 by_cases hA:A=[]
 ·subst hA;simp (maxSteps:=400000) -implicitDefEqProofs [f84,oneI,asI,most,FV.toOld,FV.toOldL,AObj.toOld,hA0,tk,hv1,hv2,hv3,hv4,hv5,hv6,hv7,hv8,hinc,m1,m2,m3,m4,t,t2,t3,hsg,hsg',m5,m6,m7,m8,m9,m10,m11,m12,k1,k2,k3,k3',k3n,k3m,j1,j2,j3,hv9,k10,k11,k12,w1,k4,k5,k6,k7,k8]
 ·have hA1:A.isEmpty=false:=by simpa using hA
  simp -implicitDefEqProofs [f84,oneI,asI,most,FV.toOld,FV.toOldL,AObj.toOld,hA0,tk,hv1,hv2,hv3,hv4,hv5,hv6,hv7,hv8,hinc,m1,m2,m3,m4,t,t2,t3,hsg,hsg',m5,m6,m7,m8,m9,m10,m11,m12,k1,k2,k3,k3',k3n,k3m,j1,j2,j3,hv9,k10,k11,k12,w1,k4,k5,k6,k7,k8,hA,hA1,hg,hd]
end
theorem put_end {l a b:List Ent}{e:Ex3}{c:Rat}(hn:l.length<=1000000)(hl:l=a++b)(ha:∀ p ∈ a,ltE p.1 e=true)(hb:∀ p r,b=p::r->ltE p.1 e=false)(hc:qz c<=50000)(hp:Bd 50000 l)(hins:insS l e c=a++insS b e c) :
  ∃ n,(match EX E1 n f84.body.r.r.r.r (puS (l.map fun p=>qC p.1 p.2) a.length .u .u (.d (.v (.bool false))) .u .u [moB (e,c)]) with|some (.exit _,_)=>none|some (_,st')=>finish f84 st'|none=>none)=some (.d (.s 6 ((insS l e c).map fun p=>qC p.1 p.2)),none):=by
 subst hl;rw[hins];rw[List.map_append,List.map_append];have hla:(a.map fun p=>qC p.1 p.2).length=a.length:=by simp
 cases b with
 | nil =>
  have h:=put_last (a.map fun p=>qC p.1 p.2) e c (by simpa using hn);rw[hla]at h;exact h
 | cons q r =>
  have hq:=hb q r rfl;have hn':((a.map fun p=>qC p.1 p.2)++qC q.1 q.2::(r.map fun p=>qC p.1 p.2)).length<=1000000:=by simpa using hn
  have hqb:qz q.2<=50000:=hp q (by simp);have hi:insS (q::r) e c=if q.1=e then(if c+q.2=0 then r else(e,c+q.2)::r) else(e,c)::q::r:=by
   show(if ltE q.1 e=true then q::insS r e c else _)=_;rw[if_neg (by simp[hq])]
  rw[hi]
  by_cases he:q.1=e
  ·rw[if_pos he]
   by_cases h0:c+q.2=0
   ·rw[if_pos h0];have h:=put_gone (a.map fun p=>qC p.1 p.2) (r.map fun p=>qC p.1 p.2) e c q hn' he hc hqb h0;rw[hla]at h;exact h
   ·rw[if_neg h0];have h:=put_sum (a.map fun p=>qC p.1 p.2) (r.map fun p=>qC p.1 p.2) e c q hn' he hc hqb h0;rw[hla]at h;exact h
  ·rw[if_neg he];have h:=put_ahead (a.map fun p=>qC p.1 p.2) (r.map fun p=>qC p.1 p.2) e c q hn' he;rw[hla]at h;exact h
theorem ca_put (l:List Ent)(e:Ex3)(c:Rat)(hn:l.length<=1000000)(hb:Bd 50000 l)(hc:qz c<=50000):Ca E1 84 [.d (polD l),.d (qC e c)] (.d (polD (putS l e c)),none):=by
 have hA:=put_A (l.map fun p=>qC p.1 p.2) e c
 by_cases h:fitsE e=true/\c≠0
 ·obtain⟨a,b,h1,h2,h3,h4⟩:=ins_split e l;obtain⟨n,hn'⟩:=put_end hn h1 h2 h3 hc hb (h4 c);obtain⟨o,st',hE,ho,hf⟩:=fin_of hn';have hput:putS l e c=insS l e c:=if_pos h;rw[hput];have hB:=put_B2 (l.map fun p=>qC p.1 p.2) e c (by omega) h.1 h.2;have hC:=put_C (l.map fun p=>qC p.1 p.2) e c;have hL:Ex E1 (.loop puL) (puS (l.map fun p=>qC p.1 p.2) 0 .u .u .u .u .u [moB (e,c)]) (.exit 0,puS (l.map fun p=>qC p.1 p.2) a.length .u .u (.d (.v (.bool false))) .u .u [moB (e,c)]):=by
   have:=pu_loop a b e c (by rw[<-h1];exact hn) h2 h3;rw[<-h1]at this;exact this
  refine Ca.body (o:=o) (st1:=st') rfl (k84:E1.fn _=_) rfl ?_ ho hf;show Ex E1 (.seq f84.body.l (.seq f84.body.r.l (.seq f84.body.r.r.l (.seq (.block 0 (.loop puL)) f84.body.r.r.r.r)))) _ _;exact hA.seq (hB.seq (hC.seq (hL.block.seq hE)))
 ·have hput:putS l e c=l:=if_neg h;rw[hput];have hB:=put_B1 (l.map fun p=>qC p.1 p.2) e c (by omega) h;refine Ca.body (o:=.ret) rfl (k84:E1.fn _=_) rfl ?_ (by intro id h;cases h) (st1:=(st0 [.u,.u,.u,.d (.s 6 (l.map fun p=>qC p.1 p.2)),.u,.u,.u,.u,.u,.u] [moB (e,c)])) ?_
  ·show Ex E1 (.seq f84.body.l (.seq f84.body.r.l f84.body.r.r)) _ _;exact hA.seq hB.seq_ret
  ·unfold polD;generalize (l.map fun p=>qC p.1 p.2)=es at*;simp -implicitDefEqProofs [f84]
def tkL:FStmt:=f86.body.r.r.r.l.r.bl.lp
def tkS (es:List D)(i:Nat)(out t:FV)(L:List AObj):St:=(st0 [.d (.s 6 es),.u,out,.d (.v (.int .i64 i)),.u,t] L)
theorem tk_round (es:List D)(i:Nat)(p:Ent)(out:FV)(L:List AObj)(xs:List D)(hi:es[i]?=some (qC p.1 p.2))(hn:es.length<=1000000)(hq:qz p.2<=100000)(ho:OutAt out L xs)(hx:xs.length<=1000000) :
  ∃ out' L',Ex E1 tkL (tkS es i out .u L) (.norm,tkS es (i+1) out' .u L')/\OutAt out' L' (xs++[qC p.1 p.2]):=by
 have hil:i<es.length:=(List.getElem?_eq_some_iff.1 hi).1;have hinc:wrapS .i64 ((i:Int)+1)=(i:Int)+1:=wrap_i64 (by omega);have hk1:((i+1:Nat):Int)=(i:Int)+1:=by omega
 have hk0:(0:Int)<=(i:Int):=by omega
 have hkc:(i:Int)<(es.length:Int):=by omega
 obtain⟨N,t⟩:=(Ca.up1 (ca_wtake p.2 (by omega))).get;obtain⟨⟨a,b,c⟩,x⟩:=p;simp only[qC,moC,qD,raw,LD]at*;generalize qs x=s,LL (qn x)=ns,LL (qd x)=ds at*;have i1:=idx hi;rcases ho with ⟨rfl,rfl⟩|⟨j,ver,rfl,hrow⟩
 ·refine⟨.ls (.loc L.length) 0 6 0 1,L++[.row 0 6 [.a [.v (.int .i64 a),.v (.int .i64 b),.v (.int .i64 c),.v (.bool s),.s 1 ns,.s 1 ds]]],Ex.of (n:=N+100) ?_,.inr ⟨L.length,0,by simp,by simp⟩⟩;unfold tkS;rw[hk1];simp -implicitDefEqProofs [tkL,f86,hinc,hk0,hkc,hil,hi,i1,t,most]
 ·have hm1:(xs.length+1)*80<=1099511627776:=by omega
  have hm2:xs.length+1<=1099511627776:=by omega
  have hjl:j<L.length:=(List.getElem?_eq_some_iff.1 hrow).1;have i2:=idx hrow;refine⟨.ls (.loc j) (ver+1) 6 0 (xs.length+1),L.set j (.row (ver+1) 6 (xs++[.a [.v (.int .i64 a),.v (.int .i64 b),.v (.int .i64 c),.v (.bool s),.s 1 ns,.s 1 ds]])),Ex.of (n:=N+100) ?_,.inr ⟨j,ver+1,by simp,by simp[hjl]⟩⟩;unfold tkS;rw[hk1];simp -implicitDefEqProofs [tkL,f86,hinc,hk0,hkc,hil,hi,i1,t,most,hrow,i2,hm1,hm2]
theorem tk_loop (l:List Ent)(hn:l.length<=1000000)(hb:Bd 100000 l) :
  ∃ out L,Ex E1 (.loop tkL) (tkS (l.map fun p=>qC p.1 p.2) 0 (.d (.n 6)) .u []) (.exit 0,tkS (l.map fun p=>qC p.1 p.2) l.length out (.d (.v (.bool false))) L)/\OutAt out L (l.map fun p=>qC p.1 p.2):=by
 have hlen:(l.map fun p=>qC p.1 p.2).length=l.length:=by simp
 obtain⟨r,h1,out,L,rfl,h3⟩:=Ex.inv (E:=E1) (b:=tkL) (α:=Nat × FV × List AObj) (S:=fun a=>tkS (l.map fun p=>qC p.1 p.2) a.1 a.2.1 .u a.2.2) (fun a=>l.length-a.1)
  (fun a=>a.1<=l.length/\OutAt a.2.1 a.2.2 ((l.take a.1).map fun p=>qC p.1 p.2)) (fun r=>∃ out L,r=(.exit 0,tkS (l.map fun p=>qC p.1 p.2) l.length out (.d (.v (.bool false))) L)/\OutAt out L (l.map fun p=>qC p.1 p.2)) (by
   rintro⟨i,out,L⟩ ⟨q1,q2⟩;simp only at q1 q2
   by_cases hi:i<l.length
   ·have hp:l[i]?=some l[i]:=List.getElem?_eq_getElem hi;have hp2:(l.map fun p=>qC p.1 p.2)[i]?=some (qC l[i].1 l[i].2):=by rw[List.getElem?_map,hp];rfl
    obtain⟨out',L',g1,g2⟩:=tk_round _ i l[i] out L _ hp2 (by rw[hlen];exact hn) (hb _ (List.getElem_mem hi)) q2 (by rw[List.length_map,List.length_take];omega);refine .inl ⟨(i+1,out',L'),g1,by show l.length-(i+1)<l.length-i;omega,by show i+1<=_;omega,?_⟩;show OutAt out' L' ((l.take (i+1)).map fun p=>qC p.1 p.2);rw[List.take_add_one,hp];have e:((l.take i++[l[i]]).map fun p:Ent=>qC p.1 p.2)=((l.take i).map fun p=>qC p.1 p.2)++[qC l[i].1 l[i].2]:=by rw[List.map_append];rfl
    show OutAt out' L' ((l.take i++[l[i]]).map fun p:Ent=>qC p.1 p.2);rw[e];exact g2
   ·obtain rfl:i=l.length:=by omega
    rw[List.take_length]at q2;refine .inr ⟨_,Ex.of (n:=60) ?_,?_,out,L,rfl,q2⟩
    ·simp only[tkS];rw[<-hlen];generalize (l.map fun p=>qC p.1 p.2)=es at*;simp -implicitDefEqProofs [tkL,f86]
    ·simp) (0,.d (.n 6),[]) ⟨Nat.zero_le _,.inl ⟨rfl,rfl⟩⟩
 exact⟨out,L,h1,h3⟩
theorem ca_take {S:Nat}{l:List Ent}(h:PV S l)(hS:S<=1000):∃ o,Ca E1 86 [.d (polD l)] (.d (polD l),o)/\o=none:=by
 have hq:=ca_qvalid _ (po_of h hS);rw[pv_none h (fun m hm=>by cases hm),<-polD_eq]at hq;obtain⟨N,t⟩:=(Ca.up1 hq).get;have hlen:=h.length;obtain⟨out,L,hl,ho⟩:=tk_loop l (by omega) (h.bd.mono (by omega));have hA:Ex E1 f86.body.l (st0 [.d (polD l),.u,.u,.u,.u,.u] []) (.norm,(st0 [.d (polD l),.u,.u,.u,.u,.u] [])):=by
  refine Ex.of (n:=60) ?_;generalize polD l=x;simp -implicitDefEqProofs [f86]
 have hB:Ex E1 f86.body.r.l (st0 [.d (polD l),.u,.u,.u,.u,.u] []) (.norm,(st0 [.d (polD l),.u,.u,.u,.d (.v (.bool false)),.u] [])):=by
  refine Ex.of (n:=N+60) ?_;unfold polD at*;generalize (l.map fun p=>qC p.1 p.2)=es at*;simp -implicitDefEqProofs [f86,t]
 have hC:Ex E1 f86.body.r.r.l (st0 [.d (polD l),.u,.u,.u,.d (.v (.bool false)),.u] []) (.norm,(st0 [.d (polD l),.u,.d (.n 6),.u,.u,.u] [])):=by
  refine Ex.of (n:=60) ?_;generalize polD l=x;simp -implicitDefEqProofs [f86]
 have hD:Ex E1 f86.body.r.r.r.l.l (st0 [.d (polD l),.u,.d (.n 6),.u,.u,.u] []) (.norm,tkS (l.map fun p=>qC p.1 p.2) 0 (.d (.n 6)) .u []):=by
  refine Ex.of (n:=60) ?_;unfold tkS polD;generalize (l.map fun p=>qC p.1 p.2)=es at*;simp -implicitDefEqProofs [f86]
 refine⟨none,?_,rfl⟩;have hE:∃ n,(match EX E1 n f86.body.r.r.r.r (tkS (l.map fun p=>qC p.1 p.2) l.length out (.d (.v (.bool false))) L) with|some (.exit _,_)=>none|some (_,st')=>finish f86 st'|none=>none)=some (.d (polD l),none):=by
  refine⟨60,?_⟩;unfold tkS polD;generalize (l.map fun p=>qC p.1 p.2)=es at*;rcases ho with ⟨rfl,rfl⟩|⟨j,ver,rfl,hrow⟩
  ·simp -implicitDefEqProofs [f86]
  ·have hv:=view_row ver es.length es rfl;have i2:=idx hrow;simp -implicitDefEqProofs [f86,hrow,i2,hv]
 obtain⟨n,hE⟩:=hE;obtain⟨o,st',hE,ho',hf⟩:=fin_of hE;refine Ca.body (o:=o) (st1:=st') rfl (k86:E1.fn _=_) rfl ?_ ho' hf;show Ex E1 (.seq f86.body.l (.seq f86.body.r.l (.seq f86.body.r.r.l (.seq (.seq f86.body.r.r.r.l.l (.block 0 (.loop tkL))) f86.body.r.r.r.r)))) _ _;exact hA.seq (hB.seq (hC.seq ((hD.seq hl.block).seq hE)))
def foldP (l ms:List Ent):List Ent:=ms.foldl (fun s p=>putS s p.1 p.2) l
theorem foldP_snoc (l ms:List Ent)(p:Ent):foldP l (ms++[p])=putS (foldP l ms) p.1 p.2:=by simp[foldP,List.foldl_append]
theorem foldP_tot (l:List Ent)(e:Ex3):∀ ms:List Ent,tot (foldP l ms) e=tot l e+tot (ms.filter fun p=>fitsE p.1) e:=by
 intro ms
 induction ms generalizing l with
 | nil=>simp only[foldP,List.foldl_nil,List.filter_nil,tot];grind
 | cons p r ih =>
  show tot (foldP (putS l p.1 p.2) r) e=_;rw[ih,putS_tot]
  by_cases h:fitsE p.1=true
  ·rw[List.filter_cons_of_pos (p:=fun p:Ent=>fitsE p.1) h];obtain⟨a,y⟩:=p;simp only at h;simp only[tot,h,true_and];grind
  ·rw[List.filter_cons_of_neg (p:=fun p:Ent=>fitsE p.1) h];simp only[h,false_and,if_false];grind
theorem foldP_pv {S T U:Nat}{l:List Ent}(h:PV S l)(hS:1<=S)(hSU:S<=U):∀ {ms:List Ent},Bd T ms->(∀ k e,qz (tot l e+tot ((ms.take k).filter fun p=>fitsE p.1) e)<=U)->PV U (foldP l ms):=by
 intro ms hT hU;have main:∀ k,k<=ms.length->PV U (foldP l (ms.take k)):=by
  intro k
  induction k with
  | zero=>intro _;simpa[foldP] using h.mono hSU
  | succ k ih =>
   intro hk;have hp:ms[k]?=some ms[k]:=List.getElem?_eq_getElem (by omega);have e1:ms.take (k+1)=ms.take k++[ms[k]]:=by rw[List.take_add_one,hp];rfl
   have h1:=ih (by omega);rw[e1,foldP_snoc];refine putS_pv h1 (by omega) (hT _ (List.getElem_mem (by omega))) (fun e' => ?_);have h2:=hU (k+1) e';have h3:=foldP_tot l e' (ms.take (k+1));rw[e1,foldP_snoc,putS_tot]at h3;rw[h3,<-e1];exact h2
 have:=main ms.length (Nat.le_refl _)
 rwa [List.take_length]at this
theorem filter_fits {ms:List Ent}(h:Fits ms):(ms.filter fun p=>fitsE p.1)=ms:=List.filter_eq_self.2 (fun p hp=>h p hp)
theorem add_prefix {S T:Nat}(hS:1<=S)(hT:1<=T){a b:List Ent}(ha:PV S a)(hb:PV T b)(k:Nat)(e:Ex3):qz (tot a e+tot ((b.take k).filter fun p=>fitsE p.1) e)<=S+T+1:=by
 have hf:Fits (b.take k):=fun p hp=>hb.fits p (List.mem_of_mem_take hp)
 rw[filter_fits hf];have h1:=tot_bd hS (srt_keys ha.srt) ha.bd e;have hk:Keys (b.take k):=List.Nodup.sublist ((List.take_sublist k b).map _) (srt_keys hb.srt);have h2:=tot_bd hT hk (fun p hp=>hb.bd p (List.mem_of_mem_take hp)) e;have:=qz_add (tot a e) (tot (b.take k) e);omega
theorem fold_add {S T:Nat}(hS:1<=S)(hT:1<=T){a b:List Ent}(ha:PV S a)(hb:PV T b)(k:Nat):PV (S+T+1) (foldP a (b.take k)):=by
 refine foldP_pv (T:=T) ha hS (by omega) (fun p hp=>hb.bd p (List.mem_of_mem_take hp)) (fun j e => ?_);rw[List.take_take];exact add_prefix hS hT ha hb _ e
theorem fold_is_add {S T:Nat}(hS:1<=S)(hT:1<=T){a b:List Ent}(ha:PV S a)(hb:PV T b):foldP a b=addP a b:=by
 have h1:=fold_add hS hT ha hb b.length;rw[List.take_length]at h1;refine PV.ext h1 (addP_pv2 hS hT ha hb) (fun e => ?_);rw[foldP_tot,addP_tot,filter_fits hb.fits]
def adL:FStmt:=f49.body.r.r.l.r.bl.lp
def adS (b:List D)(acc:D)(i:Nat)(t:FV):St:=(st0 [.u,.d (.s 6 b),.u,.d acc,.d (.v (.int .i64 i)),t] [])
theorem ad_round (es:List D)(l:List Ent)(i:Nat)(p:Ent)(hi:es[i]?=some (qC p.1 p.2))(hn:es.length<=1000000)(hl:l.length<=1000000)(hb:Bd 50000 l)(hp:qz p.2<=50000):Ex E1 adL (adS es (polD l) i .u) (.norm,adS es (polD (putS l p.1 p.2)) (i+1) .u):=by
 have hil:i<es.length:=(List.getElem?_eq_some_iff.1 hi).1;have hinc:wrapS .i64 ((i:Int)+1)=(i:Int)+1:=wrap_i64 (by omega);have hk1:((i+1:Nat):Int)=(i:Int)+1:=by omega
 have hk0:(0:Int)<=(i:Int):=by omega
 have hkc:(i:Int)<(es.length:Int):=by omega
 obtain⟨N,t⟩:=(ca_put l p.1 p.2 hl hb hp).get;refine Ex.of (n:=N+100) ?_;unfold adS polD at*;rw[hk1];generalize ((putS l p.1 p.2).map fun p=>qC p.1 p.2)=y at*;generalize (l.map fun p=>qC p.1 p.2)=z at*;simp only[qC,moC,LD]at*;generalize LL (qn p.2)=ns,LL (qd p.2)=ds at*;have i1:=idx hi;simp -implicitDefEqProofs [adL,f49,hinc,hk0,hkc,hil,hi,i1,t]
theorem ad_loop {S:Nat}(hS:1<=S)(hS2:S<=20000){a b:List Ent}(ha:PV S a)(hb:PV S b) :
  Ex E1 (.loop adL) (adS (b.map fun p=>qC p.1 p.2) (polD a) 0 .u) (.exit 0,adS (b.map fun p=>qC p.1 p.2) (polD (addP a b)) b.length (.d (.v (.bool false)))):=by
 have hlen:(b.map fun p=>qC p.1 p.2).length=b.length:=by simp
 have lb:=hb.length;obtain⟨r,h1,rfl⟩:=Ex.inv (E:=E1) (b:=adL) (S:=fun i:Nat=>adS (b.map fun p=>qC p.1 p.2) (polD (foldP a (b.take i))) i .u) (fun i=>b.length-i) (fun i=>i<=b.length)
  (fun r=>r=(.exit 0,adS (b.map fun p=>qC p.1 p.2) (polD (addP a b)) b.length (.d (.v (.bool false))))) (by
   intro i hi
   by_cases h:i<b.length
   ·have hp:b[i]?=some b[i]:=List.getElem?_eq_getElem h;have hp2:(b.map fun p=>qC p.1 p.2)[i]?=some (qC b[i].1 b[i].2):=by rw[List.getElem?_map,hp];rfl
    have hpv:=fold_add hS hS ha hb i;have:=ad_round _ (foldP a (b.take i)) i b[i] hp2 (by omega) (by have:=hpv.length;omega) (hpv.bd.mono (by omega)) (by have:=hb.bd _ (List.getElem_mem h);omega);refine .inl ⟨i+1,?_,by omega,by omega⟩;have e1:b.take (i+1)=b.take i++[b[i]]:=by rw[List.take_add_one,hp];rfl
    rw[e1,foldP_snoc];exact this
   ·obtain rfl:i=b.length:=by omega
    refine .inr ⟨_,Ex.of (n:=60) ?_,?_,rfl⟩
    ·rw[List.take_length,fold_is_add hS hS ha hb];unfold adS;rw[<-hlen];generalize (b.map fun p=>qC p.1 p.2)=es at*;generalize polD (addP a b)=x at*;simp -implicitDefEqProofs [adL,f49]
    ·simp) 0 (Nat.zero_le _)
 simpa[foldP] using h1
theorem ca_wpadd {S:Nat}(hS:1<=S)(hS2:S<=1000){a b:List Ent}(ha:PV S a)(hb:PV S b):Ca E1 49 [.d (polD a),.d (polD b)] (.d (polD (addP a b)),none):=by
 obtain⟨_,h1,rfl⟩:=ca_take ha hS2;obtain⟨_,h2,rfl⟩:=ca_take hb hS2;obtain⟨N1,t1⟩:=h1.any;obtain⟨N2,t2⟩:=h2.any;obtain⟨N,hN⟩:∃ N,N=N1+N2:=⟨_,rfl⟩
 replace t1:=t1 N (by omega);replace t2:=t2 N (by omega);have hl:=ad_loop hS (by omega) ha hb;have hA:Ex E1 f49.body.l (st0 [.d (polD a),.d (polD b),.u,.u,.u,.u] []) (.norm,(st0 [.d (polD a),.d (polD b),.u,.u,.u,.u] [])):=by
  refine Ex.of (n:=60) ?_;generalize polD a=x;generalize polD b=y;simp -implicitDefEqProofs [f49]
 have hB:Ex E1 f49.body.r.l (st0 [.d (polD a),.d (polD b),.u,.u,.u,.u] []) (.norm,(st0 [.u,.d (polD b),.u,.d (polD a),.u,.u] [])):=by
  refine Ex.of (n:=N+60) ?_;unfold polD at*;generalize (a.map fun p=>qC p.1 p.2)=x at*;generalize (b.map fun p=>qC p.1 p.2)=y at*;simp -implicitDefEqProofs [f49,t1,t2]
 have hC:Ex E1 f49.body.r.r.l.l (st0 [.u,.d (polD b),.u,.d (polD a),.u,.u] []) (.norm,adS (b.map fun p=>qC p.1 p.2) (polD a) 0 .u):=by
  refine Ex.of (n:=60) ?_;unfold adS polD;simp -implicitDefEqProofs [f49]
 have hD:Ex E1 f49.body.r.r.r (adS (b.map fun p=>qC p.1 p.2) (polD (addP a b)) b.length (.d (.v (.bool false)))) (.ret,(st0 [.u,.u,.d (polD (addP a b)),.u,.u,.u] [])):=by
  refine Ex.of (n:=60) ?_;unfold adS polD;generalize ((addP a b).map fun p=>qC p.1 p.2)=x at*;generalize (b.map fun p=>qC p.1 p.2)=y at*;simp -implicitDefEqProofs [f49]
 refine Ca.body (o:=.ret) rfl (k49:E1.fn _=_) rfl ?_ (by intro id h;cases h) (st1:=(st0 [.u,.u,.d (polD (addP a b)),.u,.u,.u] [])) ?_
 ·show Ex E1 (.seq f49.body.l (.seq f49.body.r.l (.seq (.seq f49.body.r.r.l.l (.block 0 (.loop adL))) f49.body.r.r.r))) _ _;exact hA.seq (hB.seq ((hC.seq hl.block).seq hD))
 ·unfold polD;generalize ((addP a b).map fun p=>qC p.1 p.2)=x at*;simp -implicitDefEqProofs [f49]
def xmO:FStmt:=f58.body.r.r.r.l.r.bl.lp
def xmX1:FStmt:=xmO.r.l.bl
def xmI:FStmt:=xmX1.r.bl.lp
def xmX3:FStmt:=xmI.r.l.bl
def xmE:FStmt:=xmX3.r.l.r.bl.lp
def xmS (xa xb:List D)(acc:D)(i k:Nat)(v5 v6 v7 t9 t10:FV)(L:List AObj):St :=
 (st0 [.d (.s 6 xa),.d (.s 6 xb),.u,.d acc,.d (.v (.int .i64 i)),v5,v6,v7,.u,t9,t10] L)
theorem xe_loop (xa xb:List D)(acc:D)(i k:Nat)(L:List AObj)(p q:Ent)(y:Rat)(hi:xa[i]?=some (qC p.1 p.2))(hk:xb[k]?=some (qC q.1 q.2))(hn:xa.length<=1000000)(hn2:xb.length<=1000000)(hp:fitsE p.1=true)(hq:fitsE q.1=true) :
  Ex E1 xmX3.r.l (xmS xa xb acc i 0 (.d (.v (.int .i64 k))) (.r (.loc L.length) 0) .u .u .u (L++[moB ((0,0,0),y)]))
   (.norm,xmS xa xb acc i 0 (.d (.v (.int .i64 k))) (.r (.loc L.length) 0) (.d (.v (.int .i64 3))) .u (.d (.v (.bool false))) (L++[moB (addE p.1 q.1,y)])):=by
 have h1:=fits_range hp;have h2:=fits_range hq;have hil:i<xa.length:=(List.getElem?_eq_some_iff.1 hi).1;have hkl:k<xb.length:=(List.getElem?_eq_some_iff.1 hk).1;have hi0:(0:Int)<=(i:Int):=by omega
 have hk0:(0:Int)<=(k:Int):=by omega
 obtain⟨⟨a,b,c⟩,x⟩:=p;obtain⟨⟨a',b',c'⟩,x'⟩:=q;simp only at h1 h2;have w1:wrapS .i64 (a+a')=a+a':=wrap_i64 (by omega);have w2:wrapS .i64 (b+b')=b+b':=wrap_i64 (by omega);have w3:wrapS .i64 (c+c')=c+c':=wrap_i64 (by omega);have u1:wrapS .i64 1=1:=wrap_i64 (by omega);have u2:wrapS .i64 2=2:=wrap_i64 (by omega);have u3:wrapS .i64 3=3:=wrap_i64 (by omega);have g6:∀ o,(L++[o])[L.length]?=some o:=fun o=>by simp
 have gs:∀ o o',(L++[o]).set L.length o'=L++[o']:=fun o o'=>by rw[List.set_append_right _ _ (Nat.le_refl _)];simp
 refine Ex.of (n:=200) ?_;unfold xmS;simp only[moB,qC,moC,addE,LD]at*;generalize qs x=s,LL (qn x)=ns,LL (qd x)=ds at*;generalize qs x'=s',LL (qn x')=ns',LL (qd x')=ds',qs y=s'',LL (qn y)=ns'',LL (qd y)=ds'' at*;have i1:=idx hi;have i2:=idx hk;simp -implicitDefEqProofs [xmX3,xmE,xmI,xmX1,xmO,f58,EX_loop,w1,w2,w3,u1,u2,u3,hi,hk,i1,i2,hi0,hk0,hil,hkl,g6,gs]
def Acc (d:D)(l:List Ent):Prop:=d=polD l\/(d=.n 6/\l=[])
theorem xi_round (xa xb:List D)(i k:Nat)(acc:D)(L:List AObj)(l:List Ent)(hacc:Acc acc l)(p q:Ent)(hi:xa[i]?=some (qC p.1 p.2))(hk:xb[k]?=some (qC q.1 q.2))(hn:xa.length<=1000000)(hn2:xb.length<=1000000)
  (hp:fitsE p.1=true) (hq:fitsE q.1=true) (sp:qz p.2<=20000) (sq:qz q.2<=20000) (hl:Bd 50000 l) (hll:l.length<=1000000) :
  ∃ L',Ex E1 xmI (xmS xa xb acc i 0 (.d (.v (.int .i64 k))) .u .u .u .u L) (.norm,xmS xa xb (polD (putS l (addE p.1 q.1) (p.2*q.2))) i 0 (.d (.v (.int .i64 (k+1:Nat)))) .u .u .u .u L'):=by
 have hil:i<xa.length:=(List.getElem?_eq_some_iff.1 hi).1;have hkl:k<xb.length:=(List.getElem?_eq_some_iff.1 hk).1;have hinc:wrapS .i64 ((k:Int)+1)=(k:Int)+1:=wrap_i64 (by omega);have hk1:((k+1:Nat):Int)=(k:Int)+1:=by omega
 have hi0:(0:Int)<=(i:Int):=by omega
 have hk0:(0:Int)<=(k:Int):=by omega
 have hkc:(k:Int)<(xb.length:Int):=by omega
 have hz:=qz_mul p.2 q.2;refine⟨L++[moB (addE p.1 q.1,p.2*q.2)],?_⟩;have hA1:Ex E1 xmI.l (xmS xa xb acc i 0 (.d (.v (.int .i64 k))) .u .u .u .u L) (.norm,xmS xa xb acc i 0 (.d (.v (.int .i64 k))) .u .u (.d (.v (.bool true))) .u L):=by
  refine Ex.of (n:=60) ?_;unfold xmS;simp -implicitDefEqProofs [xmI,xmX1,xmO,f58,hkc]
 have hB:Ex E1 xmX3.l (xmS xa xb acc i 0 (.d (.v (.int .i64 k))) .u .u (.d (.v (.bool true))) .u L) (.norm,xmS xa xb acc i 0 (.d (.v (.int .i64 k))) (.r (.loc L.length) 0) .u .u .u (L++[moB ((0,0,0),p.2*q.2)])):=by
  obtain⟨N,t⟩:=(Ca.up1 (ca_wmul p.2 q.2 (by omega) (by omega))).get;refine Ex.of (n:=N+100) ?_;unfold xmS;generalize p.2*q.2=y at*;obtain⟨⟨a,b,c⟩,x⟩:=p;obtain⟨⟨a',b',c'⟩,x'⟩:=q;simp only[moB,qC,moC,qD,raw,LD]at*;generalize qs x=s,LL (qn x)=ns,LL (qd x)=ds at*;generalize qs x'=s',LL (qn x')=ns',LL (qd x')=ds',qs y=s'',LL (qn y)=ns'',LL (qd y)=ds'' at*;have i1:=idx hi;have i2:=idx hk;simp -implicitDefEqProofs [xmX3,xmI,xmX1,xmO,f58,t,hi,hk,i1,i2,hi0,hk0,hil,hkl]
 have hE:=xe_loop xa xb acc i k L p q (p.2*q.2) hi hk hn hn2 hp hq;have hZ:Ex E1 xmX3.r.r (xmS xa xb acc i 0 (.d (.v (.int .i64 k))) (.r (.loc L.length) 0) (.d (.v (.int .i64 3))) .u (.d (.v (.bool false))) (L++[moB (addE p.1 q.1,p.2*q.2)]))
   (.norm,xmS xa xb (polD (putS l (addE p.1 q.1) (p.2*q.2))) i 0 (.d (.v (.int .i64 k))) .u .u .u .u (L++[moB (addE p.1 q.1,p.2*q.2)])):=by
  obtain⟨N,t⟩:=(ca_put l (addE p.1 q.1) (p.2*q.2) hll hl (by omega)).get;have g6:∀ o,(L++[o])[L.length]?=some o:=fun o=>by simp
  refine Ex.of (n:=N+100) ?_;clear hA1 hB hE;have hacc':(acc=polD l)\/(acc=.n 6/\polD l=.s 6 []):=by
   rcases hacc with h|⟨h,h'⟩
   ·exact .inl h
   ·exact .inr ⟨h,by rw[h'];rfl⟩
  unfold xmS polD at*;generalize ((putS l (addE p.1 q.1) (p.2*q.2)).map fun p=>qC p.1 p.2)=y' at*;generalize (l.map fun p=>qC p.1 p.2)=z at*;generalize addE p.1 q.1=e,p.2*q.2=y at*;simp only[moB,qC,moC,LD]at*;generalize qs y=s'',LL (qn y)=ns'',LL (qd y)=ds'' at*;rcases hacc' with rfl|⟨rfl,h2⟩
  ·simp -implicitDefEqProofs [xmX3,xmI,xmX1,xmO,f58,t,g6]
  ·cases h2;simp -implicitDefEqProofs [xmX3,xmI,xmX1,xmO,f58,t,g6]
 have hF:Ex E1 xmI.r.r (xmS xa xb (polD (putS l (addE p.1 q.1) (p.2*q.2))) i 0 (.d (.v (.int .i64 k))) .u .u .u .u (L++[moB (addE p.1 q.1,p.2*q.2)]))
   (.norm,xmS xa xb (polD (putS l (addE p.1 q.1) (p.2*q.2))) i 0 (.d (.v (.int .i64 (k+1:Nat)))) .u .u .u .u (L++[moB (addE p.1 q.1,p.2*q.2)])):=by
  refine Ex.of (n:=60) ?_;unfold xmS;rw[hk1];generalize polD (putS l (addE p.1 q.1) (p.2*q.2))=z;simp -implicitDefEqProofs [xmI,xmX1,xmO,f58,hinc]
 show Ex E1 (.seq xmI.l (.seq (.block 3 (.seq xmX3.l (.seq xmX3.r.l xmX3.r.r))) xmI.r.r)) _ _;exact hA1.seq (((hB.seq (hE.seq hZ)).block_norm).seq hF)
def pairP (p:Ent)(b:List Ent):List Ent:=b.map fun q=>(addE p.1 q.1,p.2*q.2)
def pairE (a b:List Ent):List Ent:=a.flatMap fun p=>pairP p b
theorem pairE_snoc (a b:List Ent)(p:Ent):pairE (a++[p]) b=pairE a b++pairP p b:=by simp[pairE,List.flatMap_append]
theorem pairE_length (a b:List Ent):(pairE a b).length=a.length*b.length:=by
 induction a with
 | nil=>simp[pairE]
 | cons p r ih =>
  have h1:pairE (p::r) b=pairP p b++pairE r b:=by simp[pairE]
  rw[h1,List.length_append,ih,List.length_cons,Nat.add_mul];simp[pairP];omega
theorem pairE_filter (a b:List Ent):((pairE a b).filter fun p=>fitsE p.1)=prodE a b:=by
 unfold pairE prodE;rw[List.filter_flatMap];rfl
theorem pairP_bd {S:Nat}{p:Ent}{b:List Ent}(hp:qz p.2<=S)(hb:Bd S b):Bd (2*S) (pairP p b):=by
 intro x hx;obtain⟨q,hq,rfl⟩:=List.mem_map.1 hx;have:=qz_mul p.2 q.2;have:=hb q hq;show qz (p.2*q.2)<=_;omega
theorem pairE_bd {S:Nat}{a b:List Ent}(ha:Bd S a)(hb:Bd S b):Bd (2*S) (pairE a b):=by
 intro x hx;obtain⟨p,hp,hx⟩:=List.mem_flatMap.1 hx;exact pairP_bd (ha p hp) hb x hx
theorem tot_crude {T:Nat}(hT:1<=T):∀ {l:List Ent},Bd T l->∀ e,qz (tot l e)<=l.length*(T+1)+1
 | [],_,e=>by
  have:=qz_zero;simp only[tot,List.length_nil];omega
 | p::l,h,e=>by
  have h1:=tot_crude hT (l:=l) (fun x hx=>h x (List.mem_cons_of_mem _ hx)) e;have h2:=h p (List.mem_cons_self ..);obtain⟨a,y⟩:=p;have h3:=qz_add (if a=e then y else 0) (tot l e);have h4:qz (if a=e then y else 0)<=T:=by
   split
   ·exact h2
   ·exact Nat.le_trans qz_zero (by omega)
  simp only[tot,List.length_cons,Nat.add_mul];omega
theorem fold_pref {T N:Nat}(hT:1<=T){ms:List Ent}(hb:Bd T ms)(hn:ms.length<=N):PV (N*(T+1)+1) (foldP [] ms):=by
 refine foldP_pv (S:=1) (T:=T) (PV.nil 1) (by omega) (by omega) hb (fun k e => ?_);have h1:tot [] e+tot ((ms.take k).filter fun p=>fitsE p.1) e=tot ((ms.take k).filter fun p=>fitsE p.1) e:=by simp only[tot];grind
 rw[h1];have h2:=tot_crude hT (l:=(ms.take k).filter fun p=>fitsE p.1) (fun p hp=>hb p (List.mem_of_mem_take (List.mem_filter.1 hp).1)) e;have h3:((ms.take k).filter fun p=>fitsE p.1).length<=N:=Nat.le_trans (List.length_filter_le _ _) (by rw[List.length_take];omega);exact Nat.le_trans h2 (Nat.add_le_add_right (Nat.mul_le_mul_right _ h3) 1)
theorem fold_is_mul {S:Nat}(hS:1<=S){a b:List Ent}(ha:PV S a)(hb:PV S b):foldP [] (pairE a b)=mulP a b:=by
 refine PV.ext (fold_pref (T:=2*S) (by omega) (pairE_bd ha.bd hb.bd) (Nat.le_refl _)) (mulP_pv hS ha hb) (fun e => ?_);rw[foldP_tot,pairE_filter,mulP_tot];simp only[tot];grind
theorem xi_loop {S:Nat}(hS:1<=S)(hS2:S<=1000)(xa:List D)(b pre:List Ent)(i:Nat)(acc:D)(hacc:Acc acc (foldP [] pre))(L:List AObj)(p:Ent)(hi:xa[i]?=some (qC p.1 p.2))(hn:xa.length<=1000000)(hp:fitsE p.1=true)(sp:qz p.2<=S)(hb:PV S b)
  (hpre:Bd (2*S) pre) (hm:(pre.length+b.length)*(2*S+1)<=40000) :
  ∃ acc' L',Acc acc' (foldP [] (pre++pairP p b))/\Ex E1 (.loop xmI) (xmS xa (b.map fun p=>qC p.1 p.2) acc i 0 (.d (.v (.int .i64 0))) .u .u .u .u L)
   (.exit 2,xmS xa (b.map fun p=>qC p.1 p.2) acc' i 0 (.d (.v (.int .i64 b.length))) .u .u (.d (.v (.bool false))) .u L'):=by
 have hlen:(b.map fun p=>qC p.1 p.2).length=b.length:=by simp
 have lb:=hb.length;obtain⟨r,h1,acc',L',rfl,h2⟩:=Ex.inv (E:=E1) (b:=xmI) (α:=Nat × D × List AObj) (S:=fun x=>xmS xa (b.map fun p=>qC p.1 p.2) x.2.1 i 0 (.d (.v (.int .i64 x.1))) .u .u .u .u x.2.2) (fun x=>b.length-x.1) (fun x=>x.1<=b.length/\Acc x.2.1 (foldP [] (pre++pairP p (b.take x.1))))
  (fun r=>∃ acc' L',r=(.exit 2,xmS xa (b.map fun p=>qC p.1 p.2) acc' i 0 (.d (.v (.int .i64 b.length))) .u .u (.d (.v (.bool false))) .u L')/\Acc acc' (foldP [] (pre++pairP p b))) (by
   rintro⟨k,acc,L⟩ ⟨hk,ha⟩;simp only at hk ha
   by_cases h:k<b.length
   ·have hpk:b[k]?=some b[k]:=List.getElem?_eq_getElem h;have hp2:(b.map fun p=>qC p.1 p.2)[k]?=some (qC b[k].1 b[k].2):=by rw[List.getElem?_map,hpk];rfl
    have hmem:=List.getElem_mem h;have hpv:PV 40001 (foldP [] (pre++pairP p (b.take k))):=by
     refine(fold_pref (T:=2*S) (N:=pre.length+b.length) (by omega) (fun x hx => ?_) (by simp[pairP];omega)).mono (by omega);rcases List.mem_append.1 hx with hx|hx
     ·exact hpre x hx
     ·exact pairP_bd sp (fun y hy=>hb.bd y (List.mem_of_mem_take hy)) x hx
    have hsq:=hb.bd _ hmem;obtain⟨L',g⟩:=xi_round xa _ i k acc L (foldP [] (pre++pairP p (b.take k))) ha p b[k] hi hp2 hn (by omega) hp (hb.fits _ hmem) (by omega) (by omega) (hpv.bd.mono (by omega)) (by have:=hpv.length;omega);have e1:pairP p (b.take (k+1))=pairP p (b.take k)++[(addE p.1 b[k].1,p.2*b[k].2)]:=by
     rw[List.take_add_one,hpk];unfold pairP;rw[List.map_append];rfl
    refine .inl ⟨(k+1,polD (putS (foldP [] (pre++pairP p (b.take k))) (addE p.1 b[k].1) (p.2*b[k].2)),L'),g,by show b.length-(k+1)<b.length-k;omega,by show k+1<=_;omega,.inl ?_⟩;show _=polD (foldP [] (pre++pairP p (b.take (k+1))));rw[e1,<-List.append_assoc,foldP_snoc]
   ·obtain rfl:k=b.length:=by omega
    rw[List.take_length]at ha;refine .inr ⟨_,Ex.of (n:=60) ?_,?_,acc,L,rfl,ha⟩
    ·unfold xmS;rw[<-hlen];generalize (b.map fun p=>qC p.1 p.2)=es at*;simp -implicitDefEqProofs [xmI,xmX1,xmO,f58]
    ·simp) (0,acc,L) ⟨Nat.zero_le _,by simpa[pairP] using hacc⟩
 exact⟨acc',L',h2,h1⟩
theorem xo_round {S:Nat}(hS:1<=S)(hS2:S<=1000)(a b pre:List Ent)(i:Nat)(acc:D)(hacc:Acc acc (foldP [] pre))(L:List AObj)(p:Ent)(hi:a[i]?=some p)(hn:a.length<=1000000)(hp:fitsE p.1=true)(sp:qz p.2<=S)(hb:PV S b)
  (hpre:Bd (2*S) pre) (hm:(pre.length+b.length)*(2*S+1)<=40000) :
  ∃ acc' L',Acc acc' (foldP [] (pre++pairP p b))/\Ex E1 xmO (xmS (a.map fun p=>qC p.1 p.2) (b.map fun p=>qC p.1 p.2) acc i 0 .u .u .u .u .u L)
   (.norm,xmS (a.map fun p=>qC p.1 p.2) (b.map fun p=>qC p.1 p.2) acc' (i+1) 0 .u .u .u .u .u L'):=by
 have hlen:(a.map fun p=>qC p.1 p.2).length=a.length:=by simp
 have hil:i<a.length:=(List.getElem?_eq_some_iff.1 hi).1;have hi2:(a.map fun p=>qC p.1 p.2)[i]?=some (qC p.1 p.2):=by rw[List.getElem?_map,hi];rfl
 have hinc:wrapS .i64 ((i:Int)+1)=(i:Int)+1:=wrap_i64 (by omega);have hk1:((i+1:Nat):Int)=(i:Int)+1:=by omega
 have hkc:(i:Int)<((a.map fun p=>qC p.1 p.2).length:Int):=by rw[hlen];omega
 obtain⟨acc',L',hac,hl⟩:=xi_loop hS hS2 _ b pre i acc hacc L p hi2 (by rw[hlen];exact hn) hp sp hb hpre hm;refine⟨acc',L',hac,?_⟩;have hA:Ex E1 xmO.l (xmS (a.map fun p=>qC p.1 p.2) (b.map fun p=>qC p.1 p.2) acc i 0 .u .u .u .u .u L)
   (.norm,{xmS (a.map fun p=>qC p.1 p.2) (b.map fun p=>qC p.1 p.2) acc i 0 .u .u .u .u .u L with vars:=(xmS (a.map fun p=>qC p.1 p.2) (b.map fun p=>qC p.1 p.2) acc i 0 .u .u .u .u .u L).vars.set 8 (.d (.v (.bool true)))}):=by
  refine Ex.of (n:=60) ?_;unfold xmS;generalize (a.map fun p=>qC p.1 p.2)=x at*;simp -implicitDefEqProofs [xmO,f58,hkc]
 have hB:Ex E1 xmX1.l {xmS (a.map fun p=>qC p.1 p.2) (b.map fun p=>qC p.1 p.2) acc i 0 .u .u .u .u .u L with vars:=(xmS (a.map fun p=>qC p.1 p.2) (b.map fun p=>qC p.1 p.2) acc i 0 .u .u .u .u .u L).vars.set 8 (.d (.v (.bool true)))}
   (.norm,xmS (a.map fun p=>qC p.1 p.2) (b.map fun p=>qC p.1 p.2) acc i 0 (.d (.v (.int .i64 0))) .u .u .u .u L):=by
  refine Ex.of (n:=60) ?_;unfold xmS;generalize (a.map fun p=>qC p.1 p.2)=x at*;generalize (b.map fun p=>qC p.1 p.2)=y at*;simp -implicitDefEqProofs [xmX1,xmO,f58]
 have hF:Ex E1 xmO.r.r (xmS (a.map fun p=>qC p.1 p.2) (b.map fun p=>qC p.1 p.2) acc' i 0 (.d (.v (.int .i64 b.length))) .u .u (.d (.v (.bool false))) .u L')
   (.norm,xmS (a.map fun p=>qC p.1 p.2) (b.map fun p=>qC p.1 p.2) acc' (i+1) 0 .u .u .u .u .u L'):=by
  refine Ex.of (n:=60) ?_;unfold xmS;rw[hk1];generalize (a.map fun p=>qC p.1 p.2)=x at*;generalize (b.map fun p=>qC p.1 p.2)=y at*;simp -implicitDefEqProofs [xmO,f58,hinc]
 show Ex E1 (.seq xmO.l (.seq (.block 1 (.seq xmX1.l (.block 2 (.loop xmI)))) xmO.r.r)) _ _;exact hA.seq (((hB.seq hl.block).block_norm).seq hF)
theorem xo_loop {S:Nat}(hS:1<=S)(hS2:S<=1000){a b:List Ent}(ha:PV S a)(hb:PV S b)(hm:(a.length*b.length+b.length)*(2*S+1)<=40000) :
  ∃ acc L',Acc acc (mulP a b)/\Ex E1 (.loop xmO) (xmS (a.map fun p=>qC p.1 p.2) (b.map fun p=>qC p.1 p.2) (.n 6) 0 0 .u .u .u .u .u [])
   (.exit 0,{xmS (a.map fun p=>qC p.1 p.2) (b.map fun p=>qC p.1 p.2) acc a.length 0 .u .u .u .u .u L' with vars:=(xmS (a.map fun p=>qC p.1 p.2) (b.map fun p=>qC p.1 p.2) acc a.length 0 .u .u .u .u .u L').vars.set 8 (.d (.v (.bool false)))}):=by
 have hlen:(a.map fun p=>qC p.1 p.2).length=a.length:=by simp
 have la:=ha.length;obtain⟨r,h1,acc,L',rfl,h2⟩:=Ex.inv (E:=E1) (b:=xmO) (α:=Nat × D × List AObj) (S:=fun x=>xmS (a.map fun p=>qC p.1 p.2) (b.map fun p=>qC p.1 p.2) x.2.1 x.1 0 .u .u .u .u .u x.2.2) (fun x=>a.length-x.1) (fun x=>x.1<=a.length/\Acc x.2.1 (foldP [] (pairE (a.take x.1) b)))
  (fun r=>∃ acc L',r=(.exit 0,{xmS (a.map fun p=>qC p.1 p.2) (b.map fun p=>qC p.1 p.2) acc a.length 0 .u .u .u .u .u L' with vars:=(xmS (a.map fun p=>qC p.1 p.2) (b.map fun p=>qC p.1 p.2) acc a.length 0 .u .u .u .u .u L').vars.set 8 (.d (.v (.bool false)))})/\Acc acc (mulP a b)) (by
   rintro⟨i,acc,L⟩ ⟨hi,hac⟩;simp only at hi hac
   by_cases h:i<a.length
   ·have hpk:a[i]?=some a[i]:=List.getElem?_eq_getElem h;have hmem:=List.getElem_mem h;obtain⟨acc',L',hac',g⟩:=xo_round hS hS2 a b (pairE (a.take i) b) i acc hac L a[i] hpk (by omega) (ha.fits _ hmem) (ha.bd _ hmem) hb (pairE_bd (fun x hx=>ha.bd x (List.mem_of_mem_take hx)) hb.bd) (by
     refine Nat.le_trans (Nat.mul_le_mul_right _ ?_) hm;rw[pairE_length,List.length_take,Nat.min_eq_left (by omega)];exact Nat.add_le_add_right (Nat.mul_le_mul_right _ (by omega)) _)
    have e1:pairE (a.take (i+1)) b=pairE (a.take i) b++pairP a[i] b:=by
     rw[List.take_add_one,hpk];exact pairE_snoc _ _ _
    refine .inl ⟨(i+1,acc',L'),g,by show a.length-(i+1)<a.length-i;omega,by show i+1<=_;omega,?_⟩;show Acc acc' (foldP [] (pairE (a.take (i+1)) b));rw[e1];exact hac'
   ·obtain rfl:i=a.length:=by omega
    rw[List.take_length,fold_is_mul hS ha hb]at hac;refine .inr ⟨_,Ex.of (n:=60) ?_,?_,acc,L,rfl,hac⟩
    ·unfold xmS;rw[<-hlen];generalize (a.map fun p=>qC p.1 p.2)=x at*;generalize (b.map fun p=>qC p.1 p.2)=y at*;simp -implicitDefEqProofs [xmO,f58]
    ·simp) (0,.n 6,[]) ⟨Nat.zero_le _,.inr ⟨rfl,rfl⟩⟩
 exact⟨acc,L',h2,h1⟩
theorem ca_wpmul {S:Nat}(hS:1<=S)(hS2:S<=1000){a b:List Ent}(ha:PV S a)(hb:PV S b)(hm:(a.length*b.length+b.length)*(2*S+1)<=40000):Ca E1 58 [.d (polD a),.d (polD b)] (.d (polD (mulP a b)),none):=by
 obtain⟨_,h1,rfl⟩:=ca_take ha hS2;obtain⟨_,h2,rfl⟩:=ca_take hb hS2;obtain⟨N1,t1⟩:=h1.any;obtain⟨N2,t2⟩:=h2.any;obtain⟨N,hN⟩:∃ N,N=N1+N2:=⟨_,rfl⟩
 replace t1:=t1 N (by omega);replace t2:=t2 N (by omega);obtain⟨acc,L',hac,hl⟩:=xo_loop hS hS2 ha hb hm;have hA:Ex E1 f58.body.l (st0 [.d (polD a),.d (polD b),.u,.u,.u,.u,.u,.u,.u,.u,.u] []) (.norm,(st0 [.d (polD a),.d (polD b),.u,.u,.u,.u,.u,.u,.u,.u,.u] [])):=by
  refine Ex.of (n:=60) ?_;generalize polD a=x;generalize polD b=y;simp -implicitDefEqProofs [f58]
 have hB:Ex E1 f58.body.r.l (st0 [.d (polD a),.d (polD b),.u,.u,.u,.u,.u,.u,.u,.u,.u] []) (.norm,(st0 [.d (polD a),.d (polD b),.u,.u,.u,.u,.u,.u,.u,.u,.u] [])):=by
  refine Ex.of (n:=N+60) ?_;unfold polD at*;generalize (a.map fun p=>qC p.1 p.2)=x at*;generalize (b.map fun p=>qC p.1 p.2)=y at*;simp -implicitDefEqProofs [f58,t1,t2]
 have hC:Ex E1 f58.body.r.r.l (st0 [.d (polD a),.d (polD b),.u,.u,.u,.u,.u,.u,.u,.u,.u] []) (.norm,(st0 [.d (polD a),.d (polD b),.u,.d (.n 6),.u,.u,.u,.u,.u,.u,.u] [])):=by
  refine Ex.of (n:=60) ?_;generalize polD a=x;generalize polD b=y;simp -implicitDefEqProofs [f58]
 have hD:Ex E1 f58.body.r.r.r.l.l (st0 [.d (polD a),.d (polD b),.u,.d (.n 6),.u,.u,.u,.u,.u,.u,.u] []) (.norm,xmS (a.map fun p=>qC p.1 p.2) (b.map fun p=>qC p.1 p.2) (.n 6) 0 0 .u .u .u .u .u []):=by
  refine Ex.of (n:=60) ?_;unfold xmS polD;generalize (a.map fun p=>qC p.1 p.2)=x at*;generalize (b.map fun p=>qC p.1 p.2)=y at*;simp -implicitDefEqProofs [f58]
 have hE:Ex E1 f58.body.r.r.r.r {xmS (a.map fun p=>qC p.1 p.2) (b.map fun p=>qC p.1 p.2) acc a.length 0 .u .u .u .u .u L' with vars:=(xmS (a.map fun p=>qC p.1 p.2) (b.map fun p=>qC p.1 p.2) acc a.length 0 .u .u .u .u .u L').vars.set 8 (.d (.v (.bool false)))}
   (.ret,(st0 [.u,.u,.d acc,.u,.u,.u,.u,.u,.u,.u,.u] (L'))):=by
  refine Ex.of (n:=60) ?_;unfold xmS;generalize (a.map fun p=>qC p.1 p.2)=x at*;generalize (b.map fun p=>qC p.1 p.2)=y at*;simp -implicitDefEqProofs [f58]
 refine Ca.body (o:=.ret) rfl (k58:E1.fn _=_) rfl ?_ (by intro id h;cases h) (st1:=(st0 [.u,.u,.d acc,.u,.u,.u,.u,.u,.u,.u,.u] (L'))) ?_
 ·show Ex E1 (.seq f58.body.l (.seq f58.body.r.l (.seq f58.body.r.r.l (.seq (.seq f58.body.r.r.r.l.l (.block 0 (.loop xmO))) f58.body.r.r.r.r)))) _ _;exact hA.seq (hB.seq (hC.seq ((hD.seq hl.block).seq hE)))
 ·rcases hac with rfl|⟨rfl,h⟩
  ·unfold polD;generalize ((mulP a b).map fun p=>qC p.1 p.2)=x at*;simp -implicitDefEqProofs [f58]
  ·rw[h];simp -implicitDefEqProofs [f58,polD]
def constP (x:Rat):List Ent:=if x=0 then [] else [((0,0,0),x)]
theorem putS_nil (x:Rat):putS [] (0,0,0) x=constP x:=by
 unfold putS constP insS;have h:fitsE (0,0,0)=true:=by decide
 by_cases hx:x=0
 ·rw[if_pos hx,if_neg (fun h=>h.2 hx)]
 ·rw[if_neg hx,if_pos ⟨h,hx⟩]
theorem constP_pv {S:Nat}{x:Rat}(h:qz x<=S):PV S (constP x):=by
 unfold constP;split
 ·exact PV.nil S
 ·rename_i hx;refine⟨List.pairwise_cons.2 ⟨fun _ h=>(by cases h),List.Pairwise.nil⟩,fun p hp => ?_,fun p hp => ?_,fun p hp => ?_⟩<;>(rw[List.mem_singleton]at hp;subst hp)
  ·exact hx
  ·exact(by decide:fitsE (0,0,0)=true)
  ·exact h
theorem ca_wconst (x:Rat)(hx:qz x<=50000):Ca E1 48 [.d (qD x)] (.d (polD (constP x)),none):=by
 obtain⟨N1,t1⟩:=(Ca.up1 (ca_wtake x (by omega))).any;have hp:=ca_put [] (0,0,0) x (by simp) (fun p hp=>by cases hp) hx;rw[putS_nil]at hp;obtain⟨N2,t2⟩:=hp.any;obtain⟨N,hN⟩:∃ N,N=N1+N2:=⟨_,rfl⟩
 replace t1:=t1 N (by omega);replace t2:=t2 N (by omega);refine Ca.ofS (n:=N+100) ?_;rw[CL_fn rfl (k48:E1.fn _=_) rfl];unfold polD at*;generalize ((constP x).map fun p=>qC p.1 p.2)=es at*;simp only[qC,moC,qD,raw,LD,List.map_nil]at*;generalize qs x=s,LL (qn x)=ns,LL (qd x)=ds at*;simp -implicitDefEqProofs [f48,t1,t2]
theorem ca_wscale {S:Nat}(hS:1<=S)(hS2:S<=1000){a:List Ent}(ha:PV S a)(x:Rat)(hx:qz x<=S)(hm:(a.length+1)*(2*S+1)<=40000):Ca E1 50 [.d (polD a),.d (qD x)] (.d (polD (mulP a (constP x))),none):=by
 have hc:=constP_pv hx;have hl:(constP x).length<=1:=by unfold constP;split<;>simp
 obtain⟨N1,t1⟩:=(ca_wconst x (by omega)).any;obtain⟨N2,t2⟩:=(ca_wpmul hS hS2 ha hc (by
  refine Nat.le_trans (Nat.mul_le_mul_right _ ?_) hm;have:=Nat.mul_le_mul_left a.length hl;omega)).any
 obtain⟨N,hN⟩:∃ N,N=N1+N2:=⟨_,rfl⟩
 replace t1:=t1 N (by omega);replace t2:=t2 N (by omega);refine Ca.ofS (n:=N+100) ?_;rw[CL_fn rfl (k50:E1.fn _=_) rfl];unfold polD at*;generalize ((constP x).map fun p=>qC p.1 p.2)=es at*;generalize ((mulP a (constP x)).map fun p=>qC p.1 p.2)=es2 at*;generalize (a.map fun p=>qC p.1 p.2)=es3 at*;simp only[qD,raw,LD]at*;generalize qs x=s,LL (qn x)=ns,LL (qd x)=ds at*;simp -implicitDefEqProofs [f50,t1,t2]
def paramE (i:Nat):Ex3:=if i=0 then(1,0,0) else if i=1 then(0,1,0) else(0,0,1)
theorem ca_wparam (i:Nat)(hi:i<3):Ca E1 51 [.d (.v (.int .i64 i))] (.d (polD [(paramE i,1)]),none):=by
 have h1:=Ca.up1 (ca_wof 1 1 (by decide) (by decide) (by decide));have e1:ofI 1 1=1:=by decide +kernel
 rw[e1]at h1;obtain⟨N,t⟩:=h1.get;have hi0:¬ (i:Int)<0:=by omega
 have hi3:¬ (3:Int)<=(i:Int):=by omega
 have hi3':¬ (i:Int) ≥ 3:=by omega
 refine Ca.ofS (n:=N+100) ?_;rw[CL_fn rfl (k51:E1.fn _=_) rfl];have hp:polD [(paramE i,1)]=.s 6 [qC (paramE i) 1]:=rfl;rw[hp]
 match i,hi with
 | 0,_ =>
  simp only[paramE,if_true,qC,moC,qD,raw,LD]at*;generalize qs 1=s,LL (qn 1)=ns,LL (qd 1)=ds at*;simp -implicitDefEqProofs [f51,t]
 | 1,_ =>
  simp only[paramE,qC,moC,qD,raw,LD]at*;generalize qs 1=s,LL (qn 1)=ns,LL (qd 1)=ds at*;simp -implicitDefEqProofs [f51,t]
 | 2,_ =>
  simp only[paramE,qC,moC,qD,raw,LD]at*;generalize qs 1=s,LL (qn 1)=ns,LL (qd 1)=ds at*;simp -implicitDefEqProofs [f51,t]
theorem tmod_fix (v n:Int)(hn:0<n):(v.tmod n<0->v.tmod n+n=v % n)/\(¬ v.tmod n<0->v.tmod n=v % n):=by
 have h:=Int.tmod_eq_emod (a:=v) (b:=n);have h1:=Int.emod_nonneg v (show n≠0 by omega);have h2:=Int.emod_lt_of_pos v hn;have h3:(n.natAbs:Int)=n:=by omega
 constructor
 ·intro hlt;rw[h]at hlt ⊢;split at hlt
  ·omega
  ·rename_i hh;rw[if_neg hh];omega
 ·intro hlt;rw[h]at hlt ⊢;split at hlt
  ·rename_i hh;rw[if_pos hh];omega
  ·rename_i hh;rw[if_neg hh];exfalso;have:v % n≠0:=fun h0=>hh (.inr (Int.dvd_of_emod_eq_zero h0))
   omega
theorem ca_mod (v n:Int)(hv:i64r v)(hn:0<n)(hn2:n<=1000000):Ca E0 46 [.d (.v (.int .i64 v)),.d (.v (.int .i64 n))] (.d (.v (.int .i64 (v % n))),none):=by
 obtain⟨f1,f2⟩:=tmod_fix v n hn;have h1:=Int.emod_nonneg v (show n≠0 by omega);have h2:=Int.emod_lt_of_pos v hn;have n0:n≠0:=by omega
 have n1:n≠-1:=by omega
 have n0':(n==0)=false:=by simpa using n0
 refine Ca.ofS (n:=60) ?_;rw[CL_fn rfl (k46:E0.fn _=_) rfl]
 by_cases h:v.tmod n<0
 ·have h3:=f1 h;have w0:wrapS .i64 (v.tmod n)=v.tmod n:=wrap_i64 (by omega);have w1:wrapS .i64 (v.tmod n+n)=v % n:=by rw[h3];exact wrap_i64 (by omega)
  clear f1 f2 h3 h1 h2;simp -implicitDefEqProofs [f46,n0,n0',w0,w1,h]
 ·have h3:=f2 h;have w0:wrapS .i64 (v.tmod n)=v.tmod n:=by rw[h3];exact wrap_i64 (by omega)
  clear f1 f2 h1 h2;simp -implicitDefEqProofs [f46,n0,n0',w0,h];exact h3
def numQ (v:Int):Rat:=ofI (v % 13-6) (1+(v.tdiv 13) % 3)
theorem ca_number (v:Int)(hv:i64r v):Ca E0 47 [.d (.v (.int .i64 v))] (.d (qD (numQ v)),none):=by
 have h1:=Int.emod_nonneg v (show(13:Int)≠0 by omega);have h2:=Int.emod_lt_of_pos v (show(0:Int)<13 by omega);have hd:i64r (v.tdiv 13):=by
  have h:=Int.tdiv_eq_ediv (a:=v) (b:=13);have s13:Int.sign 13=1:=rfl;rw[s13]at h;unfold i64r at*;split at h<;>omega
 have h3:=Int.emod_nonneg (v.tdiv 13) (show(3:Int)≠0 by omega);have h4:=Int.emod_lt_of_pos (v.tdiv 13) (show(0:Int)<3 by omega);obtain⟨N1,t1⟩:=(ca_mod v 13 hv (by omega) (by omega)).any;obtain⟨N2,t2⟩:=(ca_mod (v.tdiv 13) 3 hd (by omega) (by omega)).any;obtain⟨N3,t3⟩:=(ca_wof (v % 13-6) (1+(v.tdiv 13) % 3) (by omega) (by omega) (by omega)).any;obtain⟨N,hN⟩:∃ N,N=N1+N2+N3:=⟨_,rfl⟩
 replace t1:=t1 N (by omega);replace t2:=t2 N (by omega);replace t3:=t3 N (by omega);have w0:wrapS .i64 (v.tdiv 13)=v.tdiv 13:=wrap_i64 hd;have w1:wrapS .i64 (v % 13-6)=v % 13-6:=wrap_i64 (by omega);have w2:wrapS .i64 (1+(v.tdiv 13) % 3)=1+(v.tdiv 13) % 3:=wrap_i64 (by omega);refine Ca.ofS (n:=N+60) ?_;rw[CL_fn rfl (k47:E0.fn _=_) rfl];have e:ofI (v % 13-6) (1+(v.tdiv 13) % 3)=numQ v:=rfl;rw[e]at t3;generalize numQ v=x at*;clear h1 h2 h3 h4 hd e hN;simp only[qD,raw,LD]at*;generalize qs x=s,LL (qn x)=ns,LL (qd x)=ds at*;simp -implicitDefEqProofs [f47,t1,t2,t3,w0,w1,w2]
def ringK (k:Int):Int:=if k % 7=5\/k % 7=6 then 6 else k % 7+1
def ringP (k:Int):List Int:=if k % 7=5 then [1,2] else if k % 7=6 then [3,4,5] else []
theorem ca_ring (k:Int)(hk:i64r k):Ca E0 15 [.d (.v (.int .i64 k))] (.d (rgD (ringK k) (ringP k)),none):=by
 have h1:=Int.emod_nonneg k (show(7:Int)≠0 by omega);have h2:=Int.emod_lt_of_pos k (show(0:Int)<7 by omega);have hj:i64r (k % 7):=by unfold i64r;omega
 have e7:k % 7 % 7=k % 7:=by omega
 obtain⟨N1,t1⟩:=(ca_mod k 7 hk (by omega) (by omega)).any;obtain⟨N2,t2⟩:=(ca_mod (k % 7) 7 hj (by omega) (by omega)).any;rw[e7]at t2;obtain⟨N,hN⟩:∃ N,N=N1+N2:=⟨_,rfl⟩
 replace t1:=t1 N (by omega);replace t2:=t2 N (by omega);have w2:wrapS .i64 (k % 7+1)=k % 7+1:=wrap_i64 (by omega);refine Ca.ofS (n:=N+100) ?_;rw[CL_fn rfl (k15:E0.fn _=_) rfl];unfold ringK ringP rgD LK;generalize k % 7=j at*;clear e7 hj h1 h2 hN
 by_cases h5:j=5
 ·subst h5;simp -implicitDefEqProofs [f15,t1]
 ·by_cases h6:j=6
  ·subst h6;simp -implicitDefEqProofs [f15,t1]
  ·have h5':(j==5)=false:=by simpa using h5
   have h6':(j==6)=false:=by simpa using h6
   simp -implicitDefEqProofs [f15,t1,t2,h5,h6,h5',h6',w2]
end Fi.S
