import Derived.Test.YtkekcmgkpdkieaaGreatDoorCG
set_option linter.unusedVariables false
set_option linter.unusedSimpArgs false
noncomputable section
namespace Fi.S
open Go Fi
set_option maxHeartbeats 8000000
set_option maxRecDepth 100000
section
abbrev aZ:Type:=(Int × Int × Int) × Rat
def iV (p:aZ):D × D:=(lM p.1,qD p.2)
def ek (p:aZ):List D:=if p.2=0 then [] else [qC p.1 p.2]
section walk
variable {I0:Nat->Prop} {w0:World}
end walk
end
section
theorem Qe {a b c:Int × Int × Int}(h1:kV b a=false)(h2:kV c b=false):kV c a=false:=by
 rw[Xo2,Ne,lY]at*;omega
theorem Qf (a b:Int × Int × Int):kV b a=false\/kV a b=false:=by
 rw[Xo2,Xo2,Ne,Ne,lY,lY];omega
theorem Qg {l l':List D}(hp:l.Perm l')(hnd:(l.map BZ).Nodup):l.mergeSort uN=l'.mergeSort uN:=by
 have ht:∀ a b c:D,uN a b=true->uN b c=true->uN a c=true:=by
  intro a b c h1 h2;simp only[uN,Qs2]at*;exact Qe h1 h2
 have hto:∀ a b:D,(uN a b||uN b a)=true:=by
  intro a b;simp only[uN,Xn0,Qs2];exact Qf _ _
 refine List.Perm.eq_of_pairwise (le:=fun a b=>uN a b=true) (fun a b ha hb h1 h2 => ?_) (Xu2 ht hto l) (Xu2 ht hto l') (((Q31 l uN).trans hp).trans (Q31 l' uN).symm);simp only[uN,Qs2]at h1 h2;have he:=j_ h2 h1;have ha':a ∈ l:=(Q31 l uN).mem_iff.1 ha;have hb':b ∈ l:=hp.mem_iff.2 ((Q31 l' uN).mem_iff.1 hb);obtain⟨i,hi,rfl⟩:=Xk2 ha';obtain⟨j,hj,rfl⟩:=Xk2 hb';have h3:(l.map BZ)[i]?=(l.map BZ)[j]?:=by simp[hi,hj,he]
 have:=(List.getElem?_inj (by simpa using hi) hnd).1 h3;subst this;rfl
def nZ (l:List aZ):D:=.s 6 ((l.flatMap ek).mergeSort uN)
theorem zB (l:List aZ):((l.flatMap ek).map BZ).Sublist (l.map (·.1)):=by
 induction l with
 | nil=>exact List.Sublist.refl _
 | cons q l ih =>
  simp only[Xc2,Qq0,Qd2]
  by_cases h:q.2=0
  ·rw[show ek q=[] from if_pos h];exact ih.cons q.1
  ·rw[show ek q=[qC q.1 q.2] from if_neg h];exact ih.cons_cons q.1
theorem Qh (l:List aZ):∀ d ∈ l.flatMap ek,Ue d=true:=by
 intro d hd;obtain⟨q,_,hq⟩:=Xz0.1 hd;unfold ek at hq;split at hq
 ·simp at hq
 ·simp only[Q2]at hq;subst hq;rfl
theorem Cb {α β:Type}(f:α->List β):∀ l:List α,(List.range l.length).flatMap (fun i=>(l[i]?).elim [] f)=l.flatMap f
 | []=>rfl
 | a::l=>by
  rw[Qe2,List.range_succ_eq_map,Xc2,List.flatMap_map,Xc2];simp only[Qw0,Option.elim_some,Xv0];rw[Cb f l]
theorem Qi {α:Type}{l:List α}{p:List Nat}(hnd:p.Nodup)(hlt:∀ i ∈ p,i<l.length)(hall:∀ i,i<l.length->i ∈ p){β:Type}(f:α->List β):(p.flatMap fun i=>(l[i]?).elim [] f).Perm (l.flatMap f):=by
 have h1:p.Perm (List.range l.length):=(List.perm_ext_iff_of_nodup hnd List.nodup_range).2 (fun i=>by
  rw[Qz0];exact⟨hlt i,hall i⟩)
 rw[<-Cb f l];exact h1.flatMap_right _
section walk
variable {I0:Nat->Prop} {w0:World}
end walk
end
def unI:D->Option Nat
 | .v (.int .u32 n)=>some n.toNat
 | _=>none
def YF:List D->Option (List Nat)
 | []=>some []
 | d::r=>match unI d,YF r with
  | some n,some s=>some (n::s)
  | _,_=>none
def unL:D->Option (List Nat)
 | .s _ es=>YF es
 | _=>none
def unQ (d:D):Option Rat :=
 match d with
 | .a [.v (.bool s),a,b]=>match unL a,unL b with
  | some a,some b=>if jI (qD (wC s (val a) (if b.isEmpty then 1 else val b))) d then some (wC s (val a) (if b.isEmpty then 1 else val b)) else none
  | _,_=>none
 | _=>none
def unE:D->Option (Int × Int × Int)
 | .a [.v (.int .i64 a),.v (.int .i64 b),.v (.int .i64 c)]=>some (a,b,c)
 | _=>none
def vC:List (D × D)->Option (List aZ)
 | []=>some []
 | e::r=>match unE e.1,unQ e.2,vC r with
  | some a,some x,some s=>some ((a,x)::s)
  | _,_,_=>none
theorem Oj:∀ l:List Nat,YF (LL l)=some l
 | []=>rfl
 | x::l=>by
  have:=Oj l;simp only[LL,Qd2]at this ⊢;simp[YF,unI,this]
theorem Mc (a:Int):Jd a a=true:=by cases a<;>simp[Jd]
theorem Je:∀ l:List Nat,jv (LL l) (LL l)=true
 | []=>rfl
 | x::l=>by
  have:=Je l;simp only[LL,Qd2]at this ⊢;simp[jv,jI,Jf,Uh,Mc,this]
theorem ab6 (x:Rat):unQ (qD x)=some x:=by
 have h1:wC (qs x) (val (qn x)) (if (qd x).isEmpty then 1 else val (qd x))=x:=by
  have e1:val (qn x)=x.num.natAbs:=aV _;have e2:(if (qd x).isEmpty then 1 else val (qd x))=x.den:=by
   unfold qd
   by_cases h:x.den=1
   ·simp[h]
   ·rw[if_neg h];have:enc x.den≠[]:=by rw[Ne,dV];exact x.den_nz
    have:(enc x.den).isEmpty=false:=by simpa using this
    rw[this];simp[aV]
  rw[e1,e2,IQ]
 have h2:jI (qD x) (qD x)=true:=by
  simp[qD,raw,LD,jI,jv,Jf,Je]
 have h3:unQ (qD x)=if jI (qD (wC (qs x) (val (qn x)) (if (qd x).isEmpty then 1 else val (qd x)))) (qD x) then some (wC (qs x) (val (qn x)) (if (qd x).isEmpty then 1 else val (qd x))) else none:=by
  simp only[unQ,qD,raw,LD,unL,Oj]
 rw[h3,h1,if_pos h2]
theorem Cc:∀ l:List aZ,vC (l.map iV)=some l
 | []=>rfl
 | (e,x)::l=>by
  have:=Cc l;simp[vC,iV,ab6,lM,unE]at this ⊢;simp[this]
theorem Ui {d:D}{x:Rat}(h:unQ d=some x):d=qD x:=by
 unfold unQ at h;split at h
 ·split at h
  ·rename_i a' b' ha hb;generalize wC _ (val a') (if b'.isEmpty then 1 else val b')=y at h;split at h
   ·rename_i hs;cases h;exact(mM hs).symm
   ·cases h
  ·cases h
 ·cases h
theorem zC:∀ {es:List (D × D)} {l:List aZ},vC es=some l->es=l.map iV
 | [],l,h=>by simp[vC]at h;subst h;rfl
 | e::es,l,h=>by
  simp only[vC]at h;split at h<;>simp at h;subst h;rename_i a x s h1 h2 h3;rw[Qd2,<-zC h3]
  congr 1
  obtain⟨k,v⟩:=e;simp only at h1 h2;have:=Ui h2;subst this;unfold unE at h1;split at h1
  ·cases h1;rfl
  ·cases h1
def vD (l:List aZ):Bool:=decide ((l.map (·.1)).Nodup)&&l.all (fun q=>decide (qz q.2<=100000))&&decide (l.length<=100000)
def Ce (args:List FV)(B:List ae):bG :=
 match args with
 | [.m (.old i)]=>match B[i]? with
  | some (.map es)=>match vC es with
   | some l=>if vD l then some (.d (nZ l),none) else none
   | none=>none
  | _=>none
 | _=>none
theorem Uj {i:Nat}{B:List ae}{l:List aZ}(hB:B[i]?=some (.map (l.map iV)))(hl:vD l=true):Ce [.m (.old i)] B=some (.d (nZ l),none):=by
 simp[Ce,hB,Cc,hl]
end Fi.S
noncomputable section
namespace Fi.S
open Go Fi
def q8 (sz:Nat)(args:List FV)(B:List ae):bG :=
 match args with
 | [.d (.s eG [])]=>if eG=sz then some (.d (.s sz []),none) else none
 | [.d (.s eG (e::es))]=>if eG=sz/\(e::es).length<=1000000 then some (.ls (.old B.length) 1 sz 0 (e::es).length,some (B.map (ae.aA B.length)++[.row 1 sz (e::es)])) else none
 | _=>none
def E1:Env:={fn:=fn,d9:=d9,ja:=uK,iF:=fun g=>bif Nat.beq g 206 then some Ce else bif Nat.beq g 1100 then some (q8 11) else none}
theorem vE:E0.Le E1:=⟨rfl,rfl,rfl,fun g p hp=>by cases hp⟩
theorem Ca.fP {g:Nat}{args:List FV}{x:FV × Option (List ae)}(h:Ca E0 g args x):Ca E1 g args x:=h.up vE
end Fi.S
namespace Fi.S
open Go Fi
set_option maxHeartbeats 8000000
def lJ:List aZ->Int × Int × Int->Option Rat
 | [],_=>none
 | (a,y)::r,e=>if e=a then some y else lJ r e
def vF:List aZ->Int × Int × Int->Rat->List aZ
 | [],e,x=>[(e,x)]
 | (a,y)::r,e,x=>if e=a then(e,x)::r else(a,y)::vF r e x
def qU (l:List aZ)(e:Int × Int × Int)(c:Rat):List aZ:=vF l e ((lJ l e).getD 0+c)
theorem Jg (e a:Int × Int × Int):kW 5 (lM e) (lM a)=some (decide (e=a)):=by
 obtain⟨x,y,z⟩:=e;obtain⟨x',y',z'⟩:=a;simp only[kW,lM,Qe2,Qr2,if_true,dC,Qe0,X40];rw[Bool.eq_iff_iff];simp
theorem EW (e:Int × Int × Int):∀ l:List aZ,zD 5 (lM e) (l.map iV)=some ((lJ l e).map qD)
 | []=>rfl
 | (a,y)::r=>by
  simp only[Qd2,zD,iV,Jg,lJ]
  by_cases h:e=a
  ·simp[h]
  ·have:=EW e r;simp only[decide_eq_false h,if_neg h];exact this
theorem Jh (e:Int × Int × Int)(x:Rat):∀ l:List aZ,Ji 5 (lM e) (qD x) (l.map iV)=some ((vF l e x).map iV)
 | []=>rfl
 | (a,y)::r=>by
  simp only[Qd2,Ji,iV,Jg,vF]
  by_cases h:e=a
  ·simp[h,iV]
  ·have:=Jh e x r;simp only[decide_eq_false h,if_neg h,this,Qd2,iV]
theorem Uk (e:Int × Int × Int):lN 5 (lM e)=true:=by
 obtain⟨x,y,z⟩:=e;simp[lN,lM,dC]
theorem Jj (n:Nat)(e:Int × Int × Int):CL E1 (n+100) 254 [.d (lM e)] []=some (.d (.v (.int .i64 (Gt e))),none):=by
 have:=BK n e;rw[jH]at this ⊢;exact rJ vE (wO vE _) this
theorem wP:qD 0=.a [.v (.bool false),.s 1 [],.s 1 []]:=by
 have h1:qs 0=false:=by decide
 have h2:qn 0=[]:=dx;have h3:qd 0=[]:=if_pos rfl;simp[qD,raw,h1,h2,h3,LD,LL]
theorem jJ:qz 0<=1:=by
 have h:qz 0=max (sz 0) (sz 1):=rfl;have h0:sz 0=0:=by simp[sz,dx]
 rw[h,Bt,h0];decide
theorem Jk (B:List ae)(i:Nat)(l:List aZ)(hB:B[i]?=some (.map (l.map iV)))(e:Int × Int × Int)(c:Rat)(hc:qz c<=50000)(hl:∀ y,lJ l e=some y->qz y<=50000)(hd:Gt e<=5) :
  ∃ N B',(∀ k,CL E1 (N+k) 205 [.m (.old i),.d (lM e),.d (qD c)] B=some (.d (.t []),some B'))/\B.length<=B'.length/\B'[i]?=some (.map ((qU l e c).map iV)):=by
 have hz:qz 0<=50000:=Qc2 jJ omK;have hold:qz ((lJ l e).getD 0)<=50000:=by
  cases h:lJ l e with
  | none=>exact hz
  | some y=>exact hl y h
 obtain⟨N,t⟩:=(Ca.fP (Gn ((lJ l e).getD 0) c omK omK)).get;have t2:=fun m=>Jj m e
 have hil:i<B.length:=(bD hB)
 have Ol:∀ L,(B++L)[i]?=some (.map (l.map iV)):=fun L=>by rw[Qa1 hil];exact hB
 have hf:=EW e l;have hs:=Jh e ((lJ l e).getD 0+c) l;have hk:=Uk e;have hput:vF l e ((lJ l e).getD 0+c)=qU l e c:=rfl;rw[hput]at hs;generalize (qU l e c).map iV=es',(lJ l e).getD 0+c=sm,l.map iV=es,Gt e=dg at*;refine⟨N+200,((B.set i (ae.map es'))++[ae.box [.d (.v (.int .i64 e.1)),.d (.v (.int .i64 e.2.1)),.d (.v (.int .i64 e.2.2))],ae.box [.d (.v (.bool (qs c))),.d (LD (qn c)),.d (LD (qd c))]]).map (ae.aA B.length),fun k => ?_,by simp,by rw[Qb1,Qa1 (by simpa using hil),Qf0 hil];rfl⟩;replace t:=fun j=>t (k+j)
 simp only[<-Qv2]at t;rw[show N+200+k=N+k+200 by omega];generalize N+k=M at*;rw[av rfl (k205:E1.fn _=_) rfl];obtain⟨x,y,z⟩:=e;cases hg:lJ l (x,y,z) with
 | none =>
  rw[hg]at hf t;simp only[Option.map_none,Option.getD_none,wP]at hf t;simp only[lM,qD,raw]at*;generalize qs c=s,qs sm=s' at*;simp only[LD]at*;generalize LL (qn c)=ns,LL (qd c)=ds,LL (qn sm)=ns',LL (qd sm)=ds' at*;simp -implicitDefEqProofs[f205,t,t2,hd,uC,Ol,hf,hs,hk,hil,FV.aA]
 | some u =>
  rw[hg]at hf t;simp only[Q20,Q30]at hf t;simp only[lM,qD,raw]at*;generalize qs c=s,qs sm=s',qs u=s'' at*;simp only[LD]at*;generalize LL (qn c)=ns,LL (qd c)=ds,LL (qn sm)=ns',LL (qd sm)=ds',LL (qn u)=ab7,LL (qd u)=ds'' at*;simp -implicitDefEqProofs[f205,t,t2,hd,uC,Ol,hf,hs,hk,hil,FV.aA]
theorem EY (m:Nat)(i:Nat)(B:List ae)(l:List aZ)(hB:B[i]?=some (.map (l.map iV)))(hl:vD l=true):CL E1 m 206 [.m (.old i)] B=some (.d (nZ l),none):=by
 rw[rH (p:=Ce) rfl (z206:E1.fn _=_) rfl,Uj hB hl]
theorem Jl (x:Rat)(hx:qz x<=50000):Ca E1 153 [.d (qD x)] (.d (nZ [((0,0,0),0+x)]),none):=by
 have hd:Gt (0,0,0)<=5:=by
  rw[ve rfl rfl rfl];simp
 have hq:qz (0+x)<=100000:=by
  have:=oV 0 x;have:=jJ;omega
 obtain⟨N,B',t,hlen,hB'⟩:=Jk [.box [.d (.v (.bool (qs x))),.d (LD (qn x)),.d (LD (qd x))],.map []] 1 [] rfl (0,0,0) x hx (fun y h=>by simp[lJ]at h) hd;have hput:qU [] (0,0,0) x=[((0,0,0),0+x)]:=rfl;rw[hput]at hB';have hB2:(List.map (ae.aA 0) B')[1]?=some (.map (List.map iV [((0,0,0),0+x)])):=by rw[Qb1,hB'];rfl
 have t2:=fun m=>EY m 1 _ [((0,0,0),0+x)] hB2 (by simp[vD,hq])
 generalize hres:nZ [((0,0,0),0+x)]=res at*;obtain⟨es,rfl⟩:∃ es,res=.s 6 es:=⟨_,hres.symm⟩
 clear hres;refine Ca.bO (n:=N+100) ?_;rw[av rfl (k153:E1.fn _=_) rfl];clear hB' hB2 hput hd hq;simp only[lM,qD,raw]at*;generalize qs x=s at*;simp only[LD]at*;generalize LL (qn x)=ns,LL (qd x)=ds at*;simp -implicitDefEqProofs[f153,t,t2,FV.aA,FV.aR,ae.aA]
end Fi.S
