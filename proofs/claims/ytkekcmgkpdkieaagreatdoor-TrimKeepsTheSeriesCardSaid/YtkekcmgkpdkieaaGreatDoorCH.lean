import Derived.Test.YtkekcmgkpdkieaaGreatDoorCG
set_option linter.unusedVariables false
set_option linter.unusedSimpArgs false
noncomputable section
namespace Fi.S
open Go Fi
set_option maxHeartbeats 8000000
set_option maxRecDepth 100000
section
abbrev bz:Type:=(Int × Int × Int) × Rat
def jm (p:bz):D × D:=(mG p.1,qD p.2)
def eT (p:bz):List D:=if p.2=0 then [] else [qC p.1 p.2]
section walk
variable {I0:Nat->Prop} {w0:World}
end walk
end
section
theorem Rm {a b c:Int × Int × Int}(h1:lM b a=false)(h2:lM c b=false):lM c a=false:=by
 rw[Xr0,Ne,mM]at*;omega
theorem Rn (a b:Int × Int × Int):lM b a=false\/lM a b=false:=by
 rw[Xr0,Xr0,Ne,Ne,mM,mM];omega
theorem Ro {l l':List D}(hp:l.Perm l')(hnd:(l.map Dl).Nodup):l.mergeSort vJ=l'.mergeSort vJ:=by
 have ht:∀ a b c:D,vJ a b=true->vJ b c=true->vJ a c=true:=by
  intro a b c h1 h2;simp only[vJ,Qt2]at*;exact Rm h1 h2
 have hto:∀ a b:D,(vJ a b||vJ b a)=true:=by
  intro a b;simp only[vJ,Xp1,Qt2];exact Rn _ _
 refine List.Perm.eq_of_pairwise (le:=fun a b=>vJ a b=true) (fun a b ha hb h1 h2 => ?_) (Xx2 ht hto l) (Xx2 ht hto l') (((Q41 l vJ).trans hp).trans (Q41 l' vJ).symm);simp only[vJ,Qt2]at h1 h2;have he:=kM h2 h1;have ha':a ∈ l:=(Q41 l vJ).mem_iff.1 ha;have hb':b ∈ l:=hp.mem_iff.2 ((Q41 l' vJ).mem_iff.1 hb);obtain⟨i,hi,rfl⟩:=Xn0 ha';obtain⟨j,hj,rfl⟩:=Xn0 hb';have h3:(l.map Dl)[i]?=(l.map Dl)[j]?:=by simp[hi,hj,he]
 have:=(List.getElem?_inj (by simpa using hi) hnd).1 h3;subst this;rfl
def pI (l:List bz):D:=.s 6 ((l.flatMap eT).mergeSort vJ)
theorem Am (l:List bz):((l.flatMap eT).map Dl).Sublist (l.map (·.1)):=by
 induction l with
 | nil=>exact List.Sublist.refl _
 | cons q l ih =>
  simp only[Xf2,Qq2,Qd2]
  by_cases h:q.2=0
  ·rw[show eT q=[] from if_pos h];exact ih.cons q.1
  ·rw[show eT q=[qC q.1 q.2] from if_neg h];exact ih.cons_cons q.1
theorem Rp (l:List bz):∀ d ∈ l.flatMap eT,Vx d=true:=by
 intro d hd;obtain⟨q,_,hq⟩:=X2.1 hd;unfold eT at hq;split at hq
 ·simp at hq
 ·simp only[Q02]at hq;subst hq;rfl
theorem Dn {α β:Type}(f:α->List β):∀ l:List α,(List.range l.length).flatMap (fun i=>(l[i]?).elim [] f)=l.flatMap f
 | []=>rfl
 | a::l=>by
  rw[Qf1,List.range_succ_eq_map,Xf2,List.flatMap_map,Xf2];simp only[Qx0,Option.elim_some,Xf0];rw[Dn f l]
theorem Rq {α:Type}{l:List α}{p:List Nat}(hnd:p.Nodup)(hlt:∀ i ∈ p,i<l.length)(hall:∀ i,i<l.length->i ∈ p){β:Type}(f:α->List β):(p.flatMap fun i=>(l[i]?).elim [] f).Perm (l.flatMap f):=by
 have h1:p.Perm (List.range l.length):=(List.perm_ext_iff_of_nodup hnd List.nodup_range).2 (fun i=>by
  rw[Xx1];exact⟨hlt i,hall i⟩)
 rw[<-Dn f l];exact h1.flatMap_right _
section walk
variable {I0:Nat->Prop} {w0:World}
end walk
end
def unI:D->Option Nat
 | .v (.int .u32 n)=>some n.toNat
 | _=>none
def aaw:List D->Option (List Nat)
 | []=>some []
 | d::r=>match unI d,aaw r with
  | some n,some s=>some (n::s)
  | _,_=>none
def unL:D->Option (List Nat)
 | .s _ es=>aaw es
 | _=>none
def unQ (d:D):Option Rat :=
 match d with
 | .a [.v (.bool s),a,b]=>match unL a,unL b with
  | some a,some b=>if jY (qD (xn s (val a) (if b.isEmpty then 1 else val b))) d then some (xn s (val a) (if b.isEmpty then 1 else val b)) else none
  | _,_=>none
 | _=>none
def unE:D->Option (Int × Int × Int)
 | .a [.v (.int .i64 a),.v (.int .i64 b),.v (.int .i64 c)]=>some (a,b,c)
 | _=>none
def wy:List (D × D)->Option (List bz)
 | []=>some []
 | e::r=>match unE e.1,unQ e.2,wy r with
  | some a,some x,some s=>some ((a,x)::s)
  | _,_,_=>none
theorem Px:∀ l:List Nat,aaw (LL l)=some l
 | []=>rfl
 | x::l=>by
  have:=Px l;simp only[LL,Qd2]at this ⊢;simp[aaw,unI,this]
theorem Np (a:Int):JX a a=true:=by cases a<;>simp[JX]
theorem JY:∀ l:List Nat,fK (LL l) (LL l)=true
 | []=>rfl
 | x::l=>by
  have:=JY l;simp only[LL,Qd2]at this ⊢;simp[fK,jY,JZ,VA,Np,this]
theorem ael (x:Rat):unQ (qD x)=some x:=by
 have h1:xn (qs x) (val (qn x)) (if (qd x).isEmpty then 1 else val (qd x))=x:=by
  have e1:val (qn x)=x.num.natAbs:=a_ _;have e2:(if (qd x).isEmpty then 1 else val (qd x))=x.den:=by
   unfold qd
   by_cases h:x.den=1
   ·simp[h]
   ·rw[if_neg h];have:enc x.den≠[]:=by rw[Ne,eF];exact x.den_nz
    have:(enc x.den).isEmpty=false:=by simpa using this
    rw[this];simp[a_]
  rw[e1,e2,JI]
 have h2:jY (qD x) (qD x)=true:=by
  simp[qD,raw,LD,jY,fK,JZ,JY]
 have h3:unQ (qD x)=if jY (qD (xn (qs x) (val (qn x)) (if (qd x).isEmpty then 1 else val (qd x)))) (qD x) then some (xn (qs x) (val (qn x)) (if (qd x).isEmpty then 1 else val (qd x))) else none:=by
  simp only[unQ,qD,raw,LD,unL,Px]
 rw[h3,h1,if_pos h2]
theorem Dp:∀ l:List bz,wy (l.map jm)=some l
 | []=>rfl
 | (e,x)::l=>by
  have:=Dp l;simp[wy,jm,ael,mG,unE]at this ⊢;simp[this]
theorem VB {d:D}{x:Rat}(h:unQ d=some x):d=qD x:=by
 unfold unQ at h;split at h
 ·split at h
  ·rename_i a' b' ha hb;generalize xn _ (val a') (if b'.isEmpty then 1 else val b')=y at h;split at h
   ·rename_i hs;cases h;exact(nK hs).symm
   ·cases h
  ·cases h
 ·cases h
theorem Ao:∀ {es:List (D × D)} {l:List bz},wy es=some l->es=l.map jm
 | [],l,h=>by simp[wy]at h;subst h;rfl
 | e::es,l,h=>by
  simp only[wy]at h;split at h<;>simp at h;subst h;rename_i a x s h1 h2 h3;rw[Qd2,<-Ao h3]
  congr 1
  obtain⟨k,v⟩:=e;simp only at h1 h2;have:=VB h2;subst this;unfold unE at h1;split at h1
  ·cases h1;rfl
  ·cases h1
def wz (l:List bz):Bool:=decide ((l.map (·.1)).Nodup)&&l.all (fun q=>decide (qz q.2<=100000))&&decide (l.length<=100000)
def Dq (args:List FV)(B:List ai):bJ :=
 match args with
 | [.m (.old i)]=>match B[i]? with
  | some (.map es)=>match wy es with
   | some l=>if wz l then some (.d (pI l),none) else none
   | none=>none
  | _=>none
 | _=>none
theorem VC {i:Nat}{B:List ai}{l:List bz}(hB:B[i]?=some (.map (l.map jm)))(hl:wz l=true):Dq [.m (.old i)] B=some (.d (pI l),none):=by
 simp[Dq,hB,Dp,hl]
end Fi.S
noncomputable section
namespace Fi.S
open Go Fi
def r9 (sz:Nat)(args:List FV)(B:List ai):bJ :=
 match args with
 | [.d (.s fo [])]=>if fo=sz then some (.d (.s sz []),none) else none
 | [.d (.s fo (e::es))]=>if fo=sz/\(e::es).length<=1000000 then some (.ls (.old B.length) 1 sz 0 (e::es).length,some (B.map (ai.aA B.length)++[.row 1 sz (e::es)])) else none
 | _=>none
def E1:Env:={fn:=fn,eQ:=eQ,jl:=vF,iU:=fun g=>bif Nat.beq g 206 then some Dq else bif Nat.beq g 1100 then some (r9 11) else none}
theorem wB:E0.Le E1:=⟨rfl,rfl,rfl,fun g p hp=>by cases hp⟩
theorem Ca.gV {g:Nat}{args:List FV}{x:FV × Option (List ai)}(h:Ca E0 g args x):Ca E1 g args x:=h.up wB
set_option maxHeartbeats 8000000
def mE:List bz->Int × Int × Int->Option Rat
 | [],_=>none
 | (a,y)::r,e=>if e=a then some y else mE r e
def wC:List bz->Int × Int × Int->Rat->List bz
 | [],e,x=>[(e,x)]
 | (a,y)::r,e,x=>if e=a then(e,x)::r else(a,y)::wC r e x
def rV (l:List bz)(e:Int × Int × Int)(c:Rat):List bz:=wC l e ((mE l e).getD 0+c)
theorem J3 (e a:Int × Int × Int):lN 5 (mG e) (mG a)=some (decide (e=a)):=by
 obtain⟨x,y,z⟩:=e;obtain⟨x',y',z'⟩:=a;simp only[lN,mG,Qf1,Qs1,if_true,dK,Qe2,X10];rw[Bool.eq_iff_iff];simp
theorem FU (e:Int × Int × Int):∀ l:List bz,Ap 5 (mG e) (l.map jm)=some ((mE l e).map qD)
 | []=>rfl
 | (a,y)::r=>by
  simp only[Qd2,Ap,jm,J3,mE]
  by_cases h:e=a
  ·simp[h]
  ·have:=FU e r;simp only[decide_eq_false h,if_neg h];exact this
theorem J4 (e:Int × Int × Int)(x:Rat):∀ l:List bz,J5 5 (mG e) (qD x) (l.map jm)=some ((wC l e x).map jm)
 | []=>rfl
 | (a,y)::r=>by
  simp only[Qd2,J5,jm,J3,wC]
  by_cases h:e=a
  ·simp[h,jm]
  ·have:=J4 e x r;simp only[decide_eq_false h,if_neg h,this,Qd2,jm]
theorem VD (e:Int × Int × Int):mI 5 (mG e)=true:=by
 obtain⟨x,y,z⟩:=e;simp[mI,mG,dK]
theorem J6 (n:Nat)(e:Int × Int × Int):CL E1 (n+100) 254 [.d (mG e)] []=some (dI (HZ e),none):=by
 have:=C9 n e;rw[jR]at this ⊢;exact sZ wB (xI wB _) this
theorem xJ:qD 0=.a [vB false,.s 1 [],.s 1 []]:=by
 have h1:qs 0=false:=dw;have h2:qn 0=[]:=dF;have h3:qd 0=[]:=if_pos rfl;simp[qD,raw,h1,h2,h3,LD,LL]
theorem jZ:qz 0<=1:=by
 have h:qz 0=max (sz 0) (sz 1):=rfl;have h0:sz 0=0:=by simp[sz,dF]
 rw[h,Cr,h0];decide
theorem J7 (B:List ai)(i:Nat)(l:List bz)(hB:B[i]?=some (.map (l.map jm)))(e:Int × Int × Int)(c:Rat)(hc:qz c<=50000)(hl:∀ y,mE l e=some y->qz y<=50000)(hd:HZ e<=5) :
  ∃ N B',(∀ k,CL E1 (N+k) 205 [.m (.old i),.d (mG e),.d (qD c)] B=some (.d (.t []),some B'))/\B.length<=B'.length/\B'[i]?=some (.map ((rV l e c).map jm)):=by
 have hz:qz 0<=50000:=Qd1 jZ ae;have hold:qz ((mE l e).getD 0)<=50000:=by
  cases h:mE l e with
  | none=>exact hz
  | some y=>exact hl y h
 obtain⟨N,t⟩:=(Ca.gV (Hy ((mE l e).getD 0) c ae ae)).get;have t2:=fun m=>J6 m e
 have hil:i<B.length:=(aU hB)
 have Py:∀ L,(B++L)[i]?=some (.map (l.map jm)):=fun L=>by rw[Qa0 hil];exact hB
 have hf:=FU e l;have hs:=J4 e ((mE l e).getD 0+c) l;have hk:=VD e;have hput:wC l e ((mE l e).getD 0+c)=rV l e c:=rfl;rw[hput]at hs;generalize (rV l e c).map jm=es',(mE l e).getD 0+c=sm,l.map jm=es,HZ e=dg at*;refine⟨N+200,((B.set i (ai.map es'))++[ai.box [dI e.1,dI e.2.1,dI e.2.2],ai.box [dB (qs c),.d (LD (qn c)),.d (LD (qd c))]]).map (ai.aA B.length),fun k => ?_,aC,by rw[Qc0,Qa0 (by simpa using hil),Qd0 hil];rfl⟩;replace t:=fun j=>t (k+j)
 simp only[<-Qw1]at t;rw[show N+200+k=N+k+200 by omega];generalize N+k=M at*;rw[aB rfl (aO 205 f205:E1.fn _=_) rfl];obtain⟨x,y,z⟩:=e;cases hg:mE l (x,y,z) with
 | none =>
  rw[hg]at hf t;simp only[Option.map_none,Option.getD_none,xJ]at hf t;simp only[mG,qD,raw]at*;generalize qs c=s,qs sm=s' at*;simp only[LD]at*;generalize LL (qn c)=ns,LL (qd c)=ds,LL (qn sm)=ns',LL (qd sm)=ds' at*;simp[f205,t,t2,hd,o8,Py,hf,hs,hk,hil,FV.aA]
 | some u =>
  rw[hg]at hf t;simp only[Q30,Q80]at hf t;simp only[mG,qD,raw]at*;generalize qs c=s,qs sm=s',qs u=s'' at*;simp only[LD]at*;generalize LL (qn c)=ns,LL (qd c)=ds,LL (qn sm)=ns',LL (qd sm)=ds',LL (qn u)=aem,LL (qd u)=ds'' at*;simp[f205,t,t2,hd,o8,Py,hf,hs,hk,hil,FV.aA]
theorem FW (m:Nat)(i:Nat)(B:List ai)(l:List bz)(hB:B[i]?=some (.map (l.map jm)))(hl:wz l=true):CL E1 m 206 [.m (.old i)] B=some (.d (pI l),none):=by
 rw[sW (p:=Dq) rfl (z206:E1.fn _=_) rfl,VC hB hl]
theorem J8 (x:Rat)(hx:qz x<=50000):Ca E1 153 [.d (qD x)] (.d (pI [((0,0,0),0+x)]),none):=by
 have hd:HZ (0,0,0)<=5:=by
  rw[vZ rfl rfl rfl];simp
 have hq:qz (0+x)<=100000:=by
  have:=qy 0 x;have:=jZ;omega
 obtain⟨N,B',t,hlen,hB'⟩:=J7 [.box [dB (qs x),.d (LD (qn x)),.d (LD (qd x))],.map []] 1 [] rfl (0,0,0) x hx (fun y h=>by simp[mE]at h) hd;have hput:rV [] (0,0,0) x=[((0,0,0),0+x)]:=rfl;rw[hput]at hB';have hB2:(List.map (ai.aA 0) B')[1]?=some (.map (List.map jm [((0,0,0),0+x)])):=by rw[Qc0,hB'];rfl
 have t2:=fun m=>FW m 1 _ [((0,0,0),0+x)] hB2 (by simp[wz,hq])
 generalize hres:pI [((0,0,0),0+x)]=res at*;obtain⟨es,rfl⟩:∃ es,res=.s 6 es:=⟨_,hres.symm⟩
 clear hres;refine Ca.bQ (n:=N+100) ?_;rw[aB rfl (aO 153 f153:E1.fn _=_) rfl];clear hB' hB2 hput hd hq;simp only[mG,qD,raw]at*;generalize qs x=s at*;simp only[LD]at*;generalize LL (qn x)=ns,LL (qd x)=ds at*;simp[f153,t,t2,FV.aA,FV.aT,ai.aA]
end Fi.S
