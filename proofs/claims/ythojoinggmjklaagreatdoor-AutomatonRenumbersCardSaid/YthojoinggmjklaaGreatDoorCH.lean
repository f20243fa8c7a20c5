import Derived.Test.YthojoinggmjklaaGreatDoorCG
set_option linter.unusedVariables false
set_option linter.unusedSimpArgs false
noncomputable section
namespace Fi.S
open Go Fi
set_option maxHeartbeats 8000000
set_option maxRecDepth 100000
section
abbrev bN:Type:=(Int × Int × Int) × Rat
def ik (p:bN):D × D:=(kH p.1,qD p.2)
def dP (p:bN):List D:=if p.2=0 then [] else [qC p.1 p.2]
section walk
variable {I0:Nat->Prop} {w0:World}
end walk
end
section
theorem Mh {a b c:Int × Int × Int}(h1:jh b a=false)(h2:jh c b=false):jh c a=false:=by
 rw[Bool.eq_false_iff,Ne,kJ]at*;omega
theorem Mi (a b:Int × Int × Int):jh b a=false\/jh a b=false:=by
 rw[Bool.eq_false_iff,Bool.eq_false_iff,Ne,Ne,kJ,kJ];omega
theorem Mj {l l':List D}(hp:l.Perm l')(hnd:(l.map zQ).Nodup):l.mergeSort rJ=l'.mergeSort rJ:=by
 have ht:∀ a b c:D,rJ a b=true->rJ b c=true->rJ a c=true:=by
  intro a b c h1 h2;simp only[rJ,Bool.not_eq_true']at*;exact Mh h1 h2
 have hto:∀ a b:D,(rJ a b||rJ b a)=true:=by
  intro a b;simp only[rJ,Bool.or_eq_true,Bool.not_eq_true'];exact Mi _ _
 refine List.Perm.eq_of_pairwise (le:=fun a b=>rJ a b=true) (fun a b ha hb h1 h2 => ?_) (List.pairwise_mergeSort ht hto l) (List.pairwise_mergeSort ht hto l') (((List.mergeSort_perm l rJ).trans hp).trans (List.mergeSort_perm l' rJ).symm);simp only[rJ,Bool.not_eq_true']at h1 h2;have he:=jy h2 h1;have ha':a ∈ l:=(List.mergeSort_perm l rJ).mem_iff.1 ha;have hb':b ∈ l:=hp.mem_iff.2 ((List.mergeSort_perm l' rJ).mem_iff.1 hb);obtain⟨i,hi,rfl⟩:=List.getElem_of_mem ha';obtain⟨j,hj,rfl⟩:=List.getElem_of_mem hb';have h3:(l.map zQ)[i]?=(l.map zQ)[j]?:=by simp[hi,hj,he]
 have:=(List.getElem?_inj (by simpa using hi) hnd).1 h3;subst this;rfl
def uF (l:List bN):D:=.s 6 ((l.flatMap dP).mergeSort rJ)
theorem xx (l:List bN):((l.flatMap dP).map zQ).Sublist (l.map (·.1)):=by
 induction l with
 | nil=>exact List.Sublist.refl _
 | cons q l ih =>
  simp only[List.flatMap_cons,List.map_append,List.map_cons]
  by_cases h:q.2=0
  ·rw[show dP q=[] from if_pos h];exact ih.cons q.1
  ·rw[show dP q=[qC q.1 q.2] from if_neg h];exact ih.cons_cons q.1
theorem Mk (l:List bN):∀ d ∈ l.flatMap dP,P9 d=true:=by
 intro d hd;obtain⟨q,_,hq⟩:=List.mem_flatMap.1 hd;unfold dP at hq;split at hq
 ·simp at hq
 ·simp only[List.mem_singleton]at hq;subst hq;rfl
theorem zS {α β:Type}(f:α->List β):∀ l:List α,(List.range l.length).flatMap (fun i=>(l[i]?).elim [] f)=l.flatMap f
 | []=>rfl
 | a::l=>by
  rw[List.length_cons,List.range_succ_eq_map,List.flatMap_cons,List.flatMap_map,List.flatMap_cons];simp only[List.getElem?_cons_zero,Option.elim_some,List.getElem?_cons_succ];rw[zS f l]
theorem Ml {α:Type}{l:List α}{p:List Nat}(hnd:p.Nodup)(hlt:∀ i ∈ p,i<l.length)(hall:∀ i,i<l.length->i ∈ p){β:Type}(f:α->List β):(p.flatMap fun i=>(l[i]?).elim [] f).Perm (l.flatMap f):=by
 have h1:p.Perm (List.range l.length):=(List.perm_ext_iff_of_nodup hnd List.nodup_range).2 (fun i=>by
  rw[List.mem_range];exact⟨hlt i,hall i⟩)
 rw[<-zS f l];exact h1.flatMap_right _
section walk
variable {I0:Nat->Prop} {w0:World}
end walk
end
def unI:D->Option Nat
 | .v (.int .u32 n)=>some n.toNat
 | _=>none
def UT:List D->Option (List Nat)
 | []=>some []
 | d::r=>match unI d,UT r with
  | some n,some s=>some (n::s)
  | _,_=>none
def unL:D->Option (List Nat)
 | .s _ es=>UT es
 | _=>none
def unQ (d:D):Option Rat :=
 match d with
 | .a [.v (.bool s),a,b]=>match unL a,unL b with
  | some a,some b=>if jk (qD (vX s (val a) (if b.isEmpty then 1 else val b))) d then some (vX s (val a) (if b.isEmpty then 1 else val b)) else none
  | _,_=>none
 | _=>none
def unE:D->Option (Int × Int × Int)
 | .a [.v (.int .i64 a),.v (.int .i64 b),.v (.int .i64 c)]=>some (a,b,c)
 | _=>none
def sN:List (D × D)->Option (List bN)
 | []=>some []
 | e::r=>match unE e.1,unQ e.2,sN r with
  | some a,some x,some s=>some ((a,x)::s)
  | _,_,_=>none
theorem Ko:∀ l:List Nat,UT (LL l)=some l
 | []=>rfl
 | x::l=>by
  have:=Ko l;simp only[LL,List.map_cons]at this ⊢;simp[UT,unI,this]
theorem I_ (a:Int):F4 a a=true:=by cases a<;>simp[F4]
theorem F5:∀ l:List Nat,dE (LL l) (LL l)=true
 | []=>rfl
 | x::l=>by
  have:=F5 l;simp only[LL,List.map_cons]at this ⊢;simp[dE,jk,F6,Qb,I_,this]
theorem Yu (x:Rat):unQ (qD x)=some x:=by
 have h1:vX (qs x) (val (qn x)) (if (qd x).isEmpty then 1 else val (qd x))=x:=by
  have e1:val (qn x)=x.num.natAbs:=aS _;have e2:(if (qd x).isEmpty then 1 else val (qd x))=x.den:=by
   unfold qd
   by_cases h:x.den=1
   ·simp[h]
   ·rw[if_neg h];have:enc x.den≠[]:=by rw[Ne,dD];exact x.den_nz
    have:(enc x.den).isEmpty=false:=by simpa using this
    rw[this];simp[aS]
  rw[e1,e2,FD]
 have h2:jk (qD x) (qD x)=true:=by
  simp[qD,raw,LD,jk,dE,F6,F5]
 have h3:unQ (qD x)=if jk (qD (vX (qs x) (val (qn x)) (if (qd x).isEmpty then 1 else val (qd x)))) (qD x) then some (vX (qs x) (val (qn x)) (if (qd x).isEmpty then 1 else val (qd x))) else none:=by
  simp only[unQ,qD,raw,LD,unL,Ko]
 rw[h3,h1,if_pos h2]
theorem zT:∀ l:List bN,sN (l.map ik)=some l
 | []=>rfl
 | (e,x)::l=>by
  have:=zT l;simp[sN,ik,Yu,kH,unE]at this ⊢;simp[this]
theorem Qc {d:D}{x:Rat}(h:unQ d=some x):d=qD x:=by
 unfold unQ at h;split at h
 ·split at h
  ·rename_i a' b' ha hb;generalize vX _ (val a') (if b'.isEmpty then 1 else val b')=y at h;split at h
   ·rename_i hs;cases h;exact(zU hs).symm
   ·cases h
  ·cases h
 ·cases h
theorem xz:∀ {es:List (D × D)} {l:List bN},sN es=some l->es=l.map ik
 | [],l,h=>by simp[sN]at h;subst h;rfl
 | e::es,l,h=>by
  simp only[sN]at h;split at h<;>simp at h;subst h;rename_i a x s h1 h2 h3;rw[List.map_cons,<-xz h3]
  congr 1
  obtain⟨k,v⟩:=e;simp only at h1 h2;have:=Qc h2;subst this;unfold unE at h1;split at h1
  ·cases h1;rfl
  ·cases h1
def wC (l:List bN):Bool:=decide ((l.map (·.1)).Nodup)&&l.all (fun q=>decide (qz q.2<=100000))&&decide (l.length<=100000)
def zV (args:List FV)(B:List ae):bA :=
 match args with
 | [.m (.old i)]=>match B[i]? with
  | some (.map es)=>match sN es with
   | some l=>if wC l then some (.d (uF l),none) else none
   | none=>none
  | _=>none
 | _=>none
theorem Qd {i:Nat}{B:List ae}{l:List bN}(hB:B[i]?=some (.map (l.map ik)))(hl:wC l=true):zV [.m (.old i)] B=some (.d (uF l),none):=by
 simp[zV,hB,zT,hl]
end Fi.S
noncomputable section
namespace Fi.S
open Go Fi
def o8 (sz:Nat)(args:List FV)(B:List ae):bA :=
 match args with
 | [.d (.s dN [])]=>if dN=sz then some (.d (.s sz []),none) else none
 | [.d (.s dN (e::es))]=>if dN=sz/\(e::es).length<=1000000 then some (.ls (.old B.length) 1 sz 0 (e::es).length,some (B.map (ae.az B.length)++[.row 1 sz (e::es)])) else none
 | _=>none
def E1:Env:={fn:=fn,dO:=dO,iF:=xk,gU:=fun g=>bif Nat.beq g 206 then some zV else bif Nat.beq g 1100 then some (o8 11) else none}
theorem sO:E0.Le E1:=⟨rfl,rfl,rfl,fun g p hp=>by cases hp⟩
theorem Ca.iP {g:Nat}{args:List FV}{x:FV × Option (List ae)}(h:Ca E0 g args x):Ca E1 g args x:=h.up sO
end Fi.S
namespace Fi.S
open Go Fi
set_option maxHeartbeats 8000000
def kK:List bN->Int × Int × Int->Option Rat
 | [],_=>none
 | (a,y)::r,e=>if e=a then some y else kK r e
def sQ:List bN->Int × Int × Int->Rat->List bN
 | [],e,x=>[(e,x)]
 | (a,y)::r,e,x=>if e=a then(e,x)::r else(a,y)::sQ r e x
def pR (l:List bN)(e:Int × Int × Int)(c:Rat):List bN:=sQ l e ((kK l e).getD 0+c)
theorem F7 (e a:Int × Int × Int):jU 5 (kH e) (kH a)=some (decide (e=a)):=by
 obtain⟨x,y,z⟩:=e;obtain⟨x',y',z'⟩:=a;simp only[jU,kH,List.length_cons,List.length_nil,if_true,cB,Option.some.injEq,Bool.and_true];rw[Bool.eq_iff_iff];simp
theorem Cn (e:Int × Int × Int):∀ l:List bN,xA 5 (kH e) (l.map ik)=some ((kK l e).map qD)
 | []=>rfl
 | (a,y)::r=>by
  simp only[List.map_cons,xA,ik,F7,kK]
  by_cases h:e=a
  ·simp[h]
  ·have:=Cn e r;simp only[decide_eq_false h,if_neg h];exact this
theorem F8 (e:Int × Int × Int)(x:Rat):∀ l:List bN,F9 5 (kH e) (qD x) (l.map ik)=some ((sQ l e x).map ik)
 | []=>rfl
 | (a,y)::r=>by
  simp only[List.map_cons,F9,ik,F7,sQ]
  by_cases h:e=a
  ·simp[h,ik]
  ·have:=F8 e x r;simp only[decide_eq_false h,if_neg h,this,List.map_cons,ik]
theorem Qe (e:Int × Int × Int):kD 5 (kH e)=true:=by
 obtain⟨x,y,z⟩:=e;simp[kD,kH,cB]
theorem F_ (n:Nat)(e:Int × Int × Int):CL E1 (n+100) 254 [.d (kH e)] []=some (.d (.v (.int .i64 (FU e))),none):=by
 have:=zy n e;rw[iV]at this ⊢;exact pU sO (uG sO _) this
theorem uH:qD 0=.a [.v (.bool false),.s 1 [],.s 1 []]:=by
 have h1:qs 0=false:=by decide
 have h2:qn 0=[]:=bW;have h3:qd 0=[]:=if_pos rfl;simp[qD,raw,h1,h2,h3,LD,LL]
theorem nL:qz 0<=1:=by
 have h:qz 0=max (sz 0) (sz 1):=rfl;have h0:sz 0=0:=by simp[sz,bW]
 rw[h,Iu,h0];decide
theorem Qf (B:List ae)(i:Nat)(l:List bN)(hB:B[i]?=some (.map (l.map ik)))(e:Int × Int × Int)(c:Rat)(hc:qz c<=50000)(hl:∀ y,kK l e=some y->qz y<=50000)(hd:FU e<=5) :
  ∃ N B',(∀ k,CL E1 (N+k) 205 [.m (.old i),.d (kH e),.d (qD c)] B=some (.d (.t []),some B'))/\B.length<=B'.length/\B'[i]?=some (.map ((pR l e c).map ik)):=by
 have hz:qz 0<=50000:=Nat.le_trans nL (by omega);have hold:qz ((kK l e).getD 0)<=50000:=by
  cases h:kK l e with
  | none=>exact hz
  | some y=>exact hl y h
 obtain⟨N,t⟩:=(Ca.iP (DT ((kK l e).getD 0) c (by omega) (by omega))).get;have t2:=fun m=>F_ m e
 have hil:i<B.length:=(aT hB)
 have Kr:∀ L,(B++L)[i]?=some (.map (l.map ik)):=fun L=>by rw[List.getElem?_append_left hil];exact hB
 have hf:=Cn e l;have hs:=F8 e ((kK l e).getD 0+c) l;have hk:=Qe e;have hput:sQ l e ((kK l e).getD 0+c)=pR l e c:=rfl;rw[hput]at hs;generalize (pR l e c).map ik=es',(kK l e).getD 0+c=sm,l.map ik=es,FU e=dg at*;refine⟨N+200,((B.set i (ae.map es'))++[ae.box [.d (.v (.int .i64 e.1)),.d (.v (.int .i64 e.2.1)),.d (.v (.int .i64 e.2.2))],ae.box [.d (.v (.bool (qs c))),.d (LD (qn c)),.d (LD (qd c))]]).map (ae.az B.length),fun k => ?_,by simp,by rw[List.getElem?_map,List.getElem?_append_left (by simpa using hil),List.getElem?_set_self hil];rfl⟩;replace t:=fun j=>t (k+j)
 simp only[<-Nat.add_assoc]at t;rw[show N+200+k=N+k+200 by omega];generalize N+k=M at*;rw[aA rfl (k205:E1.fn _=_) rfl];obtain⟨x,y,z⟩:=e;cases hg:kK l (x,y,z) with
 | none =>
  rw[hg]at hf t;simp only[Option.map_none,Option.getD_none,uH]at hf t;simp only[kH,qD,raw]at*;generalize qs c=s,qs sm=s' at*;simp only[LD]at*;generalize LL (qn c)=ns,LL (qd c)=ds,LL (qn sm)=ns',LL (qd sm)=ds' at*;simp -implicitDefEqProofs[f205,t,t2,hd,mF,Kr,hf,hs,hk,hil,FV.az]
 | some u =>
  rw[hg]at hf t;simp only[Option.map_some,Option.getD_some]at hf t;simp only[kH,qD,raw]at*;generalize qs c=s,qs sm=s',qs u=s'' at*;simp only[LD]at*;generalize LL (qn c)=ns,LL (qd c)=ds,LL (qn sm)=ns',LL (qd sm)=ds',LL (qn u)=agl,LL (qd u)=ds'' at*;simp -implicitDefEqProofs[f205,t,t2,hd,mF,Kr,hf,hs,hk,hil,FV.az]
theorem Mm (m:Nat)(i:Nat)(B:List ae)(l:List bN)(hB:B[i]?=some (.map (l.map ik)))(hl:wC l=true):CL E1 m 206 [.m (.old i)] B=some (.d (uF l),none):=by
 rw[pQ (p:=zV) rfl (z206:E1.fn _=_) rfl,Qd hB hl]
end Fi.S
