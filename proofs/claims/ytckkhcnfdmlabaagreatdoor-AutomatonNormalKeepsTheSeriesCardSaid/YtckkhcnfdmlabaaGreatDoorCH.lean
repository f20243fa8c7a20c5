import Derived.Test.YtckkhcnfdmlabaaGreatDoorCG
set_option linter.unusedVariables false
set_option linter.unusedSimpArgs false
noncomputable section
namespace Fi.S
open Go Fi
set_option maxHeartbeats 8000000
set_option maxRecDepth 100000
section
abbrev aW:Type:=(Int × Int × Int) × Rat
def iM (p:aW):D × D:=(lq p.1,qD p.2)
def dZ (p:aW):List D:=if p.2=0 then [] else [qC p.1 p.2]
section walk
variable {I0:Nat->Prop} {w0:World}
end walk
end
section
theorem OT {a b c:Int × Int × Int}(h1:kK b a=false)(h2:kK c b=false):kK c a=false:=by
 rw[Bool.eq_false_iff,Ne,lH]at*;omega
theorem OU (a b:Int × Int × Int):kK b a=false\/kK a b=false:=by
 rw[Bool.eq_false_iff,Bool.eq_false_iff,Ne,Ne,lH,lH];omega
theorem OV {l l':List D}(hp:l.Perm l')(hnd:(l.map Bi).Nodup):l.mergeSort tV=l'.mergeSort tV:=by
 have ht:∀ a b c:D,tV a b=true->tV b c=true->tV a c=true:=by
  intro a b c h1 h2;simp only[tV,Bool.not_eq_true']at*;exact OT h1 h2
 have hto:∀ a b:D,(tV a b||tV b a)=true:=by
  intro a b;simp only[tV,Bool.or_eq_true,Bool.not_eq_true'];exact OU _ _
 refine List.Perm.eq_of_pairwise (le:=fun a b=>tV a b=true) (fun a b ha hb h1 h2 => ?_) (List.pairwise_mergeSort ht hto l) (List.pairwise_mergeSort ht hto l') (((List.mergeSort_perm l tV).trans hp).trans (List.mergeSort_perm l' tV).symm);simp only[tV,Bool.not_eq_true']at h1 h2;have he:=jW h2 h1;have ha':a ∈ l:=(List.mergeSort_perm l tV).mem_iff.1 ha;have hb':b ∈ l:=hp.mem_iff.2 ((List.mergeSort_perm l' tV).mem_iff.1 hb);obtain⟨i,hi,rfl⟩:=List.getElem_of_mem ha';obtain⟨j,hj,rfl⟩:=List.getElem_of_mem hb';have h3:(l.map Bi)[i]?=(l.map Bi)[j]?:=by simp[hi,hj,he]
 have:=(List.getElem?_inj (by simpa using hi) hnd).1 h3;subst this;rfl
def nP (l:List aW):D:=.s 6 ((l.flatMap dZ).mergeSort tV)
theorem yL (l:List aW):((l.flatMap dZ).map Bi).Sublist (l.map (·.1)):=by
 induction l with
 | nil=>exact List.Sublist.refl _
 | cons q l ih =>
  simp only[List.flatMap_cons,List.map_append,List.map_cons]
  by_cases h:q.2=0
  ·rw[show dZ q=[] from if_pos h];exact ih.cons q.1
  ·rw[show dZ q=[qC q.1 q.2] from if_neg h];exact ih.cons_cons q.1
theorem OW (l:List aW):∀ d ∈ l.flatMap dZ,SC d=true:=by
 intro d hd;obtain⟨q,_,hq⟩:=List.mem_flatMap.1 hd;unfold dZ at hq;split at hq
 ·simp at hq
 ·simp only[List.mem_singleton]at hq;subst hq;rfl
theorem Bl {α β:Type}(f:α->List β):∀ l:List α,(List.range l.length).flatMap (fun i=>(l[i]?).elim [] f)=l.flatMap f
 | []=>rfl
 | a::l=>by
  rw[List.length_cons,List.range_succ_eq_map,List.flatMap_cons,List.flatMap_map,List.flatMap_cons];simp only[List.getElem?_cons_zero,Option.elim_some,List.getElem?_cons_succ];rw[Bl f l]
theorem OX {α:Type}{l:List α}{p:List Nat}(hnd:p.Nodup)(hlt:∀ i ∈ p,i<l.length)(hall:∀ i,i<l.length->i ∈ p){β:Type}(f:α->List β):(p.flatMap fun i=>(l[i]?).elim [] f).Perm (l.flatMap f):=by
 have h1:p.Perm (List.range l.length):=(List.perm_ext_iff_of_nodup hnd List.nodup_range).2 (fun i=>by
  rw[List.mem_range];exact⟨hlt i,hall i⟩)
 rw[<-Bl f l];exact h1.flatMap_right _
section walk
variable {I0:Nat->Prop} {w0:World}
end walk
end
def unI:D->Option Nat
 | .v (.int .u32 n)=>some n.toNat
 | _=>none
def Xi:List D->Option (List Nat)
 | []=>some []
 | d::r=>match unI d,Xi r with
  | some n,some s=>some (n::s)
  | _,_=>none
def unL:D->Option (List Nat)
 | .s _ es=>Xi es
 | _=>none
def unQ (d:D):Option Rat :=
 match d with
 | .a [.v (.bool s),a,b]=>match unL a,unL b with
  | some a,some b=>if jy (qD (vk s (val a) (if b.isEmpty then 1 else val b))) d then some (vk s (val a) (if b.isEmpty then 1 else val b)) else none
  | _,_=>none
 | _=>none
def unE:D->Option (Int × Int × Int)
 | .a [.v (.int .i64 a),.v (.int .i64 b),.v (.int .i64 c)]=>some (a,b,c)
 | _=>none
def uC:List (D × D)->Option (List aW)
 | []=>some []
 | e::r=>match unE e.1,unQ e.2,uC r with
  | some a,some x,some s=>some ((a,x)::s)
  | _,_,_=>none
theorem M6:∀ l:List Nat,Xi (LL l)=some l
 | []=>rfl
 | x::l=>by
  have:=M6 l;simp only[LL,List.map_cons]at this ⊢;simp[Xi,unI,this]
theorem KU (a:Int):Ia a a=true:=by cases a<;>simp[Ia]
theorem Ib:∀ l:List Nat,jg (LL l) (LL l)=true
 | []=>rfl
 | x::l=>by
  have:=Ib l;simp only[LL,List.map_cons]at this ⊢;simp[jg,jy,Ic,SG,KU,this]
theorem aaF (x:Rat):unQ (qD x)=some x:=by
 have h1:vk (qs x) (val (qn x)) (if (qd x).isEmpty then 1 else val (qd x))=x:=by
  have e1:val (qn x)=x.num.natAbs:=aT _;have e2:(if (qd x).isEmpty then 1 else val (qd x))=x.den:=by
   unfold qd
   by_cases h:x.den=1
   ·simp[h]
   ·rw[if_neg h];have:enc x.den≠[]:=by rw[Ne,dR];exact x.den_nz
    have:(enc x.den).isEmpty=false:=by simpa using this
    rw[this];simp[aT]
  rw[e1,e2,Hr]
 have h2:jy (qD x) (qD x)=true:=by
  simp[qD,raw,LD,jy,jg,Ic,Ib]
 have h3:unQ (qD x)=if jy (qD (vk (qs x) (val (qn x)) (if (qd x).isEmpty then 1 else val (qd x)))) (qD x) then some (vk (qs x) (val (qn x)) (if (qd x).isEmpty then 1 else val (qd x))) else none:=by
  simp only[unQ,qD,raw,LD,unL,M6]
 rw[h3,h1,if_pos h2]
theorem Bn:∀ l:List aW,uC (l.map iM)=some l
 | []=>rfl
 | (e,x)::l=>by
  have:=Bn l;simp[uC,iM,aaF,lq,unE]at this ⊢;simp[this]
theorem SH {d:D}{x:Rat}(h:unQ d=some x):d=qD x:=by
 unfold unQ at h;split at h
 ·split at h
  ·rename_i a' b' ha hb;generalize vk _ (val a') (if b'.isEmpty then 1 else val b')=y at h;split at h
   ·rename_i hs;cases h;exact(mo hs).symm
   ·cases h
  ·cases h
 ·cases h
theorem yM:∀ {es:List (D × D)} {l:List aW},uC es=some l->es=l.map iM
 | [],l,h=>by simp[uC]at h;subst h;rfl
 | e::es,l,h=>by
  simp only[uC]at h;split at h<;>simp at h;subst h;rename_i a x s h1 h2 h3;rw[List.map_cons,<-yM h3]
  congr 1
  obtain⟨k,v⟩:=e;simp only at h1 h2;have:=SH h2;subst this;unfold unE at h1;split at h1
  ·cases h1;rfl
  ·cases h1
def uD (l:List aW):Bool:=decide ((l.map (·.1)).Nodup)&&l.all (fun q=>decide (qz q.2<=100000))&&decide (l.length<=100000)
def Bo (args:List FV)(B:List ae):bF :=
 match args with
 | [.m (.old i)]=>match B[i]? with
  | some (.map es)=>match uC es with
   | some l=>if uD l then some (.d (nP l),none) else none
   | none=>none
  | _=>none
 | _=>none
theorem SI {i:Nat}{B:List ae}{l:List aW}(hB:B[i]?=some (.map (l.map iM)))(hl:uD l=true):Bo [.m (.old i)] B=some (.d (nP l),none):=by
 simp[Bo,hB,Bn,hl]
end Fi.S
noncomputable section
namespace Fi.S
open Go Fi
def qF (sz:Nat)(args:List FV)(B:List ae):bF :=
 match args with
 | [.d (.s eu [])]=>if eu=sz then some (.d (.s sz []),none) else none
 | [.d (.s eu (e::es))]=>if eu=sz/\(e::es).length<=1000000 then some (.ls (.old B.length) 1 sz 0 (e::es).length,some (B.map (ae.av B.length)++[.row 1 sz (e::es)])) else none
 | _=>none
def E1:Env:={fn:=fn,dY:=dY,iR:=tO,ik:=fun g=>bif Nat.beq g 206 then some Bo else bif Nat.beq g 1100 then some (qF 11) else none}
theorem uE:E0.Le E1:=⟨rfl,rfl,rfl,fun g p hp=>by cases hp⟩
theorem Ca.fG {g:Nat}{args:List FV}{x:FV × Option (List ae)}(h:Ca E0 g args x):Ca E1 g args x:=h.up uE
end Fi.S
namespace Fi.S
open Go Fi
set_option maxHeartbeats 8000000
def kZ:List aW->Int × Int × Int->Option Rat
 | [],_=>none
 | (a,y)::r,e=>if e=a then some y else kZ r e
def uF:List aW->Int × Int × Int->Rat->List aW
 | [],e,x=>[(e,x)]
 | (a,y)::r,e,x=>if e=a then(e,x)::r else(a,y)::uF r e x
def qm (l:List aW)(e:Int × Int × Int)(c:Rat):List aW:=uF l e ((kZ l e).getD 0+c)
theorem Ie (e a:Int × Int × Int):kL 5 (lq e) (lq a)=some (decide (e=a)):=by
 obtain⟨x,y,z⟩:=e;obtain⟨x',y',z'⟩:=a;simp only[kL,lq,List.length_cons,List.length_nil,if_true,dA,Option.some.injEq,Bool.and_true];rw[Bool.eq_iff_iff];simp
theorem Eh (e:Int × Int × Int):∀ l:List aW,yN 5 (lq e) (l.map iM)=some ((kZ l e).map qD)
 | []=>rfl
 | (a,y)::r=>by
  simp only[List.map_cons,yN,iM,Ie,kZ]
  by_cases h:e=a
  ·simp[h]
  ·have:=Eh e r;simp only[decide_eq_false h,if_neg h];exact this
theorem Ig (e:Int × Int × Int)(x:Rat):∀ l:List aW,Ih 5 (lq e) (qD x) (l.map iM)=some ((uF l e x).map iM)
 | []=>rfl
 | (a,y)::r=>by
  simp only[List.map_cons,Ih,iM,Ie,uF]
  by_cases h:e=a
  ·simp[h,iM]
  ·have:=Ig e x r;simp only[decide_eq_false h,if_neg h,this,List.map_cons,iM]
theorem SK (e:Int × Int × Int):lD 5 (lq e)=true:=by
 obtain⟨x,y,z⟩:=e;simp[lD,lq,dA]
theorem Ii (n:Nat)(e:Int × Int × Int):CL E1 (n+100) 254 [.d (lq e)] []=some (.d (.v (.int .i64 (FI e))),none):=by
 have:=AZ n e;rw[jw]at this ⊢;exact qV uE (vK uE _) this
theorem vL:qD 0=.a [.v (.bool false),.s 1 [],.s 1 []]:=by
 have h1:qs 0=false:=by decide
 have h2:qn 0=[]:=dn;have h3:qd 0=[]:=if_pos rfl;simp[qD,raw,h1,h2,h3,LD,LL]
theorem jA:qz 0<=1:=by
 have h:qz 0=max (sz 0) (sz 1):=rfl;have h0:sz 0=0:=by simp[sz,dn]
 rw[h,Ay,h0];decide
theorem Ij (B:List ae)(i:Nat)(l:List aW)(hB:B[i]?=some (.map (l.map iM)))(e:Int × Int × Int)(c:Rat)(hc:qz c<=50000)(hl:∀ y,kZ l e=some y->qz y<=50000)(hd:FI e<=5) :
  ∃ N B',(∀ k,CL E1 (N+k) 205 [.m (.old i),.d (lq e),.d (qD c)] B=some (.d (.t []),some B'))/\B.length<=B'.length/\B'[i]?=some (.map ((qm l e c).map iM)):=by
 have hz:qz 0<=50000:=Nat.le_trans jA (by omega);have hold:qz ((kZ l e).getD 0)<=50000:=by
  cases h:kZ l e with
  | none=>exact hz
  | some y=>exact hl y h
 obtain⟨N,t⟩:=(Ca.fG (FC ((kZ l e).getD 0) c (by omega) (by omega))).get;have t2:=fun m=>Ii m e
 have hil:i<B.length:=(bH hB)
 have M7:∀ L,(B++L)[i]?=some (.map (l.map iM)):=fun L=>by rw[List.getElem?_append_left hil];exact hB
 have hf:=Eh e l;have hs:=Ig e ((kZ l e).getD 0+c) l;have hk:=SK e;have hput:uF l e ((kZ l e).getD 0+c)=qm l e c:=rfl;rw[hput]at hs;generalize (qm l e c).map iM=es',(kZ l e).getD 0+c=sm,l.map iM=es,FI e=dg at*;refine⟨N+200,((B.set i (ae.map es'))++[ae.box [.d (.v (.int .i64 e.1)),.d (.v (.int .i64 e.2.1)),.d (.v (.int .i64 e.2.2))],ae.box [.d (.v (.bool (qs c))),.d (LD (qn c)),.d (LD (qd c))]]).map (ae.av B.length),fun k => ?_,by simp,by rw[List.getElem?_map,List.getElem?_append_left (by simpa using hil),List.getElem?_set_self hil];rfl⟩;replace t:=fun j=>t (k+j)
 simp only[<-Nat.add_assoc]at t;rw[show N+200+k=N+k+200 by omega];generalize N+k=M at*;rw[ak rfl (k205:E1.fn _=_) rfl];obtain⟨x,y,z⟩:=e;cases hg:kZ l (x,y,z) with
 | none =>
  rw[hg]at hf t;simp only[Option.map_none,Option.getD_none,vL]at hf t;simp only[lq,qD,raw]at*;generalize qs c=s,qs sm=s' at*;simp only[LD]at*;generalize LL (qn c)=ns,LL (qd c)=ds,LL (qn sm)=ns',LL (qd sm)=ds' at*;simp -implicitDefEqProofs[f205,t,t2,hd,tN,M7,hf,hs,hk,hil,FV.av]
 | some u =>
  rw[hg]at hf t;simp only[Option.map_some,Option.getD_some]at hf t;simp only[lq,qD,raw]at*;generalize qs c=s,qs sm=s',qs u=s'' at*;simp only[LD]at*;generalize LL (qn c)=ns,LL (qd c)=ds,LL (qn sm)=ns',LL (qd sm)=ds',LL (qn u)=aaG,LL (qd u)=ds'' at*;simp -implicitDefEqProofs[f205,t,t2,hd,tN,M7,hf,hs,hk,hil,FV.av]
theorem Ei (m:Nat)(i:Nat)(B:List ae)(l:List aW)(hB:B[i]?=some (.map (l.map iM)))(hl:uD l=true):CL E1 m 206 [.m (.old i)] B=some (.d (nP l),none):=by
 rw[qU (p:=Bo) rfl (z206:E1.fn _=_) rfl,SI hB hl]
theorem Ik (x:Rat)(hx:qz x<=50000):Ca E1 153 [.d (qD x)] (.d (nP [((0,0,0),0+x)]),none):=by
 have hd:FI (0,0,0)<=5:=by
  rw[uw rfl rfl rfl];simp
 have hq:qz (0+x)<=100000:=by
  have:=oH 0 x;have:=jA;omega
 obtain⟨N,B',t,hlen,hB'⟩:=Ij [.box [.d (.v (.bool (qs x))),.d (LD (qn x)),.d (LD (qd x))],.map []] 1 [] rfl (0,0,0) x hx (fun y h=>by simp[kZ]at h) hd;have hput:qm [] (0,0,0) x=[((0,0,0),0+x)]:=rfl;rw[hput]at hB';have hB2:(List.map (ae.av 0) B')[1]?=some (.map (List.map iM [((0,0,0),0+x)])):=by rw[List.getElem?_map,hB'];rfl
 have t2:=fun m=>Ei m 1 _ [((0,0,0),0+x)] hB2 (by simp[uD,hq])
 generalize hres:nP [((0,0,0),0+x)]=res at*;obtain⟨es,rfl⟩:∃ es,res=.s 6 es:=⟨_,hres.symm⟩
 clear hres;refine Ca.bO (n:=N+100) ?_;rw[ak rfl (k153:E1.fn _=_) rfl];clear hB' hB2 hput hd hq;simp only[lq,qD,raw]at*;generalize qs x=s at*;simp only[LD]at*;generalize LL (qn x)=ns,LL (qd x)=ds at*;simp -implicitDefEqProofs[f153,t,t2,FV.av,FV.aO,ae.av]
end Fi.S
