import Derived.Test.YtkekcmgkpdkieaaGreatDoorCG
set_option linter.unusedVariables false
set_option linter.unusedSimpArgs false
noncomputable section
namespace Fi.S
open Go Fi
set_option maxHeartbeats 8000000
set_option maxRecDepth 100000
section
abbrev bS:Type:=(Int × Int × Int) × Rat
def iM (p:bS):D × D:=(lD p.1,qD p.2)
def d9 (p:bS):List D:=if p.2=0 then [] else [qC p.1 p.2]
section walk
variable {I0:Nat->Prop} {w0:World}
end walk
end
section
theorem Og {a b c:Int × Int × Int}(h1:jG b a=false)(h2:jG c b=false):jG c a=false:=by
 rw[Xn2,Ne,lG]at*;omega
theorem Oh (a b:Int × Int × Int):jG b a=false\/jG a b=false:=by
 rw[Xn2,Xn2,Ne,Ne,lG,lG];omega
theorem Oi {l l':List D}(hp:l.Perm l')(hnd:(l.map A7).Nodup):l.mergeSort tJ=l'.mergeSort tJ:=by
 have ht:∀ a b c:D,tJ a b=true->tJ b c=true->tJ a c=true:=by
  intro a b c h1 h2;simp only[tJ,Qo0]at*;exact Og h1 h2
 have hto:∀ a b:D,(tJ a b||tJ b a)=true:=by
  intro a b;simp only[tJ,Xg1,Qo0];exact Oh _ _
 refine List.Perm.eq_of_pairwise (le:=fun a b=>tJ a b=true) (fun a b ha hb h1 h2 => ?_) (Xu2 ht hto l) (Xu2 ht hto l') (((Q02 l tJ).trans hp).trans (Q02 l' tJ).symm);simp only[tJ,Qo0]at h1 h2;have he:=jP h2 h1;have ha':a ∈ l:=(Q02 l tJ).mem_iff.1 ha;have hb':b ∈ l:=hp.mem_iff.2 ((Q02 l' tJ).mem_iff.1 hb);obtain⟨i,hi,rfl⟩:=Xj2 ha';obtain⟨j,hj,rfl⟩:=Xj2 hb';have h3:(l.map A7)[i]?=(l.map A7)[j]?:=by simp[hi,hj,he]
 have:=(List.getElem?_inj (by simpa using hi) hnd).1 h3;subst this;rfl
def vJ (l:List bS):D:=.s 6 ((l.flatMap d9).mergeSort tJ)
theorem yC (l:List bS):((l.flatMap d9).map A7).Sublist (l.map (·.1)):=by
 induction l with
 | nil=>exact List.Sublist.refl _
 | cons q l ih =>
  simp only[Xa1,Qr0,Qe1]
  by_cases h:q.2=0
  ·rw[show d9 q=[] from if_pos h];exact ih.cons q.1
  ·rw[show d9 q=[qC q.1 q.2] from if_neg h];exact ih.cons_cons q.1
theorem Oj (l:List bS):∀ d ∈ l.flatMap d9,RZ d=true:=by
 intro d hd;obtain⟨q,_,hq⟩:=List.mem_flatMap.1 hd;unfold d9 at hq;split at hq
 ·simp at hq
 ·simp only[Xc1]at hq;subst hq;rfl
theorem A9 {α β:Type}(f:α->List β):∀ l:List α,(List.range l.length).flatMap (fun i=>(l[i]?).elim [] f)=l.flatMap f
 | []=>rfl
 | a::l=>by
  rw[Qf2,List.range_succ_eq_map,Xa1,List.flatMap_map,Xa1];simp only[Qv1,Option.elim_some,Xk2];rw[A9 f l]
theorem Ol {α:Type}{l:List α}{p:List Nat}(hnd:p.Nodup)(hlt:∀ i ∈ p,i<l.length)(hall:∀ i,i<l.length->i ∈ p){β:Type}(f:α->List β):(p.flatMap fun i=>(l[i]?).elim [] f).Perm (l.flatMap f):=by
 have h1:p.Perm (List.range l.length):=(List.perm_ext_iff_of_nodup hnd List.nodup_range).2 (fun i=>by
  rw[X40];exact⟨hlt i,hall i⟩)
 rw[<-A9 f l];exact h1.flatMap_right _
section walk
variable {I0:Nat->Prop} {w0:World}
end walk
end
def unI:D->Option Nat
 | .v (.int .u32 n)=>some n.toNat
 | _=>none
def Xw:List D->Option (List Nat)
 | []=>some []
 | d::r=>match unI d,Xw r with
  | some n,some s=>some (n::s)
  | _,_=>none
def unL:D->Option (List Nat)
 | .s _ es=>Xw es
 | _=>none
def unQ (d:D):Option Rat :=
 match d with
 | .a [.v (.bool s),a,b]=>match unL a,unL b with
  | some a,some b=>if jH (qD (xn s (val a) (if b.isEmpty then 1 else val b))) d then some (xn s (val a) (if b.isEmpty then 1 else val b)) else none
  | _,_=>none
 | _=>none
def unE:D->Option (Int × Int × Int)
 | .a [.v (.int .i64 a),.v (.int .i64 b),.v (.int .i64 c)]=>some (a,b,c)
 | _=>none
def uq:List (D × D)->Option (List bS)
 | []=>some []
 | e::r=>match unE e.1,unQ e.2,uq r with
  | some a,some x,some s=>some ((a,x)::s)
  | _,_,_=>none
theorem Mk:∀ l:List Nat,Xw (LL l)=some l
 | []=>rfl
 | x::l=>by
  have:=Mk l;simp only[LL,Qe1]at this ⊢;simp[Xw,unI,this]
theorem Kz (a:Int):Hy a a=true:=by cases a<;>simp[Hy]
theorem Hz:∀ l:List Nat,dQ (LL l) (LL l)=true
 | []=>rfl
 | x::l=>by
  have:=Hz l;simp only[LL,Qe1]at this ⊢;simp[dQ,jH,HV,R5,Kz,this]
theorem aba (x:Rat):unQ (qD x)=some x:=by
 have h1:xn (qs x) (val (qn x)) (if (qd x).isEmpty then 1 else val (qd x))=x:=by
  have e1:val (qn x)=x.num.natAbs:=aV _;have e2:(if (qd x).isEmpty then 1 else val (qd x))=x.den:=by
   unfold qd
   by_cases h:x.den=1
   ·simp[h]
   ·rw[if_neg h];have:enc x.den≠[]:=by rw[Ne,dO];exact x.den_nz
    have:(enc x.den).isEmpty=false:=by simpa using this
    rw[this];simp[aV]
  rw[e1,e2,GZ]
 have h2:jH (qD x) (qD x)=true:=by
  simp[qD,raw,LD,jH,dQ,HV,Hz]
 have h3:unQ (qD x)=if jH (qD (xn (qs x) (val (qn x)) (if (qd x).isEmpty then 1 else val (qd x)))) (qD x) then some (xn (qs x) (val (qn x)) (if (qd x).isEmpty then 1 else val (qd x))) else none:=by
  simp only[unQ,qD,raw,LD,unL,Mk]
 rw[h3,h1,if_pos h2]
theorem A_:∀ l:List bS,uq (l.map iM)=some l
 | []=>rfl
 | (e,x)::l=>by
  have:=A_ l;simp[uq,iM,aba,lD,unE]at this ⊢;simp[this]
theorem R6 {d:D}{x:Rat}(h:unQ d=some x):d=qD x:=by
 unfold unQ at h;split at h
 ·split at h
  ·rename_i a' b' ha hb;generalize xn _ (val a') (if b'.isEmpty then 1 else val b')=y at h;split at h
   ·rename_i hs;cases h;exact(Ba hs).symm
   ·cases h
  ·cases h
 ·cases h
theorem yD:∀ {es:List (D × D)} {l:List bS},uq es=some l->es=l.map iM
 | [],l,h=>by simp[uq]at h;subst h;rfl
 | e::es,l,h=>by
  simp only[uq]at h;split at h<;>simp at h;subst h;rename_i a x s h1 h2 h3;rw[Qe1,<-yD h3]
  congr 1
  obtain⟨k,v⟩:=e;simp only at h1 h2;have:=R6 h2;subst this;unfold unE at h1;split at h1
  ·cases h1;rfl
  ·cases h1
def xE (l:List bS):Bool:=decide ((l.map (·.1)).Nodup)&&l.all (fun q=>decide (qz q.2<=100000))&&decide (l.length<=100000)
def Bb (args:List FV)(B:List ai):bF :=
 match args with
 | [.m (.old i)]=>match B[i]? with
  | some (.map es)=>match uq es with
   | some l=>if xE l then some (.d (vJ l),none) else none
   | none=>none
  | _=>none
 | _=>none
theorem R7 {i:Nat}{B:List ai}{l:List bS}(hB:B[i]?=some (.map (l.map iM)))(hl:xE l=true):Bb [.m (.old i)] B=some (.d (vJ l),none):=by
 simp[Bb,hB,A_,hl]
end Fi.S
noncomputable section
namespace Fi.S
open Go Fi
def qK (sz:Nat)(args:List FV)(B:List ai):bF :=
 match args with
 | [.d (.s dY [])]=>if dY=sz then some (.d (.s sz []),none) else none
 | [.d (.s dY (e::es))]=>if dY=sz/\(e::es).length<=1000000 then some (.ls (.old B.length) 1 sz 0 (e::es).length,some (B.map (ai.aA B.length)++[.row 1 sz (e::es)])) else none
 | _=>none
def E1:Env:={fn:=fn,dU:=dU,iK:=yw,iC:=fun g=>bif Nat.beq g 206 then some Bb else bif Nat.beq g 1100 then some (qK 11) else none}
theorem uu:E0.Le E1:=⟨rfl,rfl,rfl,fun g p hp=>by cases hp⟩
theorem Ca.jg {g:Nat}{args:List FV}{x:FV × Option (List ai)}(h:Ca E0 g args x):Ca E1 g args x:=h.up uu
set_option maxHeartbeats 8000000
def lH:List bS->Int × Int × Int->Option Rat
 | [],_=>none
 | (a,y)::r,e=>if e=a then some y else lH r e
def uw:List bS->Int × Int × Int->Rat->List bS
 | [],e,x=>[(e,x)]
 | (a,y)::r,e,x=>if e=a then(e,x)::r else(a,y)::uw r e x
def qY (l:List bS)(e:Int × Int × Int)(c:Rat):List bS:=uw l e ((lH l e).getD 0+c)
theorem HY (e a:Int × Int × Int):kE 5 (lD e) (lD a)=some (decide (e=a)):=by
 obtain⟨x,y,z⟩:=e;obtain⟨x',y',z'⟩:=a;simp only[kE,lD,Qf2,Qw0,if_true,dn,Qd2,Bool.and_true];rw[Bool.eq_iff_iff];simp
theorem D6 (e:Int × Int × Int):∀ l:List bS,yE 5 (lD e) (l.map iM)=some ((lH l e).map qD)
 | []=>rfl
 | (a,y)::r=>by
  simp only[Qe1,yE,iM,HY,lH]
  by_cases h:e=a
  ·simp[h]
  ·have:=D6 e r;simp only[decide_eq_false h,if_neg h];exact this
theorem HZ (e:Int × Int × Int)(x:Rat):∀ l:List bS,H5 5 (lD e) (qD x) (l.map iM)=some ((uw l e x).map iM)
 | []=>rfl
 | (a,y)::r=>by
  simp only[Qe1,H5,iM,HY,uw]
  by_cases h:e=a
  ·simp[h,iM]
  ·have:=HZ e x r;simp only[decide_eq_false h,if_neg h,this,Qe1,iM]
theorem R8 (e:Int × Int × Int):kY 5 (lD e)=true:=by
 obtain⟨x,y,z⟩:=e;simp[kY,lD,dn]
theorem H6 (n:Nat)(e:Int × Int × Int):CL E1 (n+100) 254 [.d (lD e)] []=some (dI (Ho e),none):=by
 have:=Av n e;rw[iZ]at this ⊢;exact qZ uu (vK uu _) this
theorem vL:qD 0=.a [vB false,.s 1 [],.s 1 []]:=by
 have h1:qs 0=false:=fV;have h2:qn 0=[]:=df;have h3:qd 0=[]:=if_pos rfl;simp[qD,raw,h1,h2,h3,LD,LL]
theorem oU:qz 0<=1:=by
 have h:qz 0=max (sz 0) (sz 1):=rfl;have h0:sz 0=0:=by simp[sz,df]
 rw[h,J3,h0];decide
theorem R9 (B:List ai)(i:Nat)(l:List bS)(hB:B[i]?=some (.map (l.map iM)))(e:Int × Int × Int)(c:Rat)(hc:qz c<=50000)(hl:∀ y,lH l e=some y->qz y<=50000)(hd:Ho e<=5) :
  ∃ N B',(∀ k,CL E1 (N+k) 205 [.m (.old i),.d (lD e),.d (qD c)] B=some (.d (.t []),some B'))/\B.length<=B'.length/\B'[i]?=some (.map ((qY l e c).map iM)):=by
 have hz:qz 0<=50000:=Qe2 oU ae;have hold:qz ((lH l e).getD 0)<=50000:=by
  cases h:lH l e with
  | none=>exact hz
  | some y=>exact hl y h
 obtain⟨N,t⟩:=(Ca.jg (Fb ((lH l e).getD 0) c ae ae)).get;have t2:=fun m=>H6 m e
 have hil:i<B.length:=(aS hB)
 have Ml:∀ L,(B++L)[i]?=some (.map (l.map iM)):=fun L=>by rw[Qa0 hil];exact hB
 have hf:=D6 e l;have hs:=HZ e ((lH l e).getD 0+c) l;have hk:=R8 e;have hput:uw l e ((lH l e).getD 0+c)=qY l e c:=rfl;rw[hput]at hs;generalize (qY l e c).map iM=es',(lH l e).getD 0+c=sm,l.map iM=es,Ho e=dg at*;refine⟨N+200,((B.set i (ai.map es'))++[ai.box [dI e.1,dI e.2.1,dI e.2.2],ai.box [dB (qs c),.d (LD (qn c)),.d (LD (qd c))]]).map (ai.aA B.length),fun k => ?_,aC,by rw[Qc1,Qa0 (by simpa using hil),Qd0 hil];rfl⟩;replace t:=fun j=>t (k+j)
 simp only[<-Qv0]at t;rw[show N+200+k=N+k+200 by omega];generalize N+k=M at*;rw[aB rfl (aN 205 f205:E1.fn _=_) rfl];obtain⟨x,y,z⟩:=e;cases hg:lH l (x,y,z) with
 | none =>
  rw[hg]at hf t;simp only[Option.map_none,Option.getD_none,vL]at hf t;simp only[lD,qD,raw]at*;generalize qs c=s,qs sm=s' at*;simp only[LD]at*;generalize LL (qn c)=ns,LL (qd c)=ds,LL (qn sm)=ns',LL (qd sm)=ds' at*;simp[f205,t,t2,hd,lY,Ml,hf,hs,hk,hil,FV.aA]
 | some u =>
  rw[hg]at hf t;simp only[Q70,Q31]at hf t;simp only[lD,qD,raw]at*;generalize qs c=s,qs sm=s',qs u=s'' at*;simp only[LD]at*;generalize LL (qn c)=ns,LL (qd c)=ds,LL (qn sm)=ns',LL (qd sm)=ds',LL (qn u)=aje,LL (qd u)=ds'' at*;simp[f205,t,t2,hd,lY,Ml,hf,hs,hk,hil,FV.aA]
theorem Om (m:Nat)(i:Nat)(B:List ai)(l:List bS)(hB:B[i]?=some (.map (l.map iM)))(hl:xE l=true):CL E1 m 206 [.m (.old i)] B=some (.d (vJ l),none):=by
 rw[qX (p:=Bb) rfl (z206:E1.fn _=_) rfl,R7 hB hl]
end Fi.S
