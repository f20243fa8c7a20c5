import Derived.Test.YtbbogkfadofneaaGreatDoorCG
set_option linter.unusedVariables false
set_option linter.unusedSimpArgs false
noncomputable section
namespace Fi.S
open Go Fi
set_option maxHeartbeats 8000000
set_option maxRecDepth 100000
section
abbrev a_:Type:=(Int × Int × Int) × Rat
def iW (p:a_):D × D:=(lM p.1,qD p.2)
def eG (p:a_):List D:=if p.2=0 then [] else [qC p.1 p.2]
section walk
variable {I0:Nat->Prop} {w0:World}
end walk
end
section
theorem PT {a b c:Int × Int × Int}(h1:kU b a=false)(h2:kU c b=false):kU c a=false:=by
 rw[Xn1,Ne,lV]at*;omega
theorem PU (a b:Int × Int × Int):kU b a=false\/kU a b=false:=by
 rw[Xn1,Xn1,Ne,Ne,lV,lV];omega
theorem PW {l l':List D}(hp:l.Perm l')(hnd:(l.map BP).Nodup):l.mergeSort uD=l'.mergeSort uD:=by
 have ht:∀ a b c:D,uD a b=true->uD b c=true->uD a c=true:=by
  intro a b c h1 h2;simp only[uD,Qs2]at*;exact PT h1 h2
 have hto:∀ a b:D,(uD a b||uD b a)=true:=by
  intro a b;simp only[uD,Xl2,Qs2];exact PU _ _
 refine List.Perm.eq_of_pairwise (le:=fun a b=>uD a b=true) (fun a b ha hb h1 h2 => ?_) (Xv0 ht hto l) (Xv0 ht hto l') (((Q21 l uD).trans hp).trans (Q21 l' uD).symm);simp only[uD,Qs2]at h1 h2;have he:=j6 h2 h1;have ha':a ∈ l:=(Q21 l uD).mem_iff.1 ha;have hb':b ∈ l:=hp.mem_iff.2 ((Q21 l' uD).mem_iff.1 hb);obtain⟨i,hi,rfl⟩:=Xk1 ha';obtain⟨j,hj,rfl⟩:=Xk1 hb';have h3:(l.map BP)[i]?=(l.map BP)[j]?:=by simp[hi,hj,he]
 have:=(List.getElem?_inj (by simpa using hi) hnd).1 h3;subst this;rfl
def oF (l:List a_):D:=.s 6 ((l.flatMap eG).mergeSort uD)
theorem zk (l:List a_):((l.flatMap eG).map BP).Sublist (l.map (·.1)):=by
 induction l with
 | nil=>exact List.Sublist.refl _
 | cons q l ih =>
  simp only[Xc0,Qp2,Qe2]
  by_cases h:q.2=0
  ·rw[show eG q=[] from if_pos h];exact ih.cons q.1
  ·rw[show eG q=[qC q.1 q.2] from if_neg h];exact ih.cons_cons q.1
theorem PX (l:List a_):∀ d ∈ l.flatMap eG,TY d=true:=by
 intro d hd;obtain⟨q,_,hq⟩:=Xz1.1 hd;unfold eG at hq;split at hq
 ·simp at hq
 ·simp only[Qz0]at hq;subst hq;rfl
theorem BR {α β:Type}(f:α->List β):∀ l:List α,(List.range l.length).flatMap (fun i=>(l[i]?).elim [] f)=l.flatMap f
 | []=>rfl
 | a::l=>by
  rw[Qg0,List.range_succ_eq_map,Xc0,List.flatMap_map,Xc0];simp only[Qv1,Option.elim_some,List.getElem?_cons_succ];rw[BR f l]
theorem PY {α:Type}{l:List α}{p:List Nat}(hnd:p.Nodup)(hlt:∀ i ∈ p,i<l.length)(hall:∀ i,i<l.length->i ∈ p){β:Type}(f:α->List β):(p.flatMap fun i=>(l[i]?).elim [] f).Perm (l.flatMap f):=by
 have h1:p.Perm (List.range l.length):=(List.perm_ext_iff_of_nodup hnd List.nodup_range).2 (fun i=>by
  rw[Xu2];exact⟨hlt i,hall i⟩)
 rw[<-BR f l];exact h1.flatMap_right _
section walk
variable {I0:Nat->Prop} {w0:World}
end walk
end
def unI:D->Option Nat
 | .v (.int .u32 n)=>some n.toNat
 | _=>none
def YJ:List D->Option (List Nat)
 | []=>some []
 | d::r=>match unI d,YJ r with
  | some n,some s=>some (n::s)
  | _,_=>none
def unL:D->Option (List Nat)
 | .s _ es=>YJ es
 | _=>none
def unQ (d:D):Option Rat :=
 match d with
 | .a [.v (.bool s),a,b]=>match unL a,unL b with
  | some a,some b=>if jd (qD (vX s (val a) (if b.isEmpty then 1 else val b))) d then some (vX s (val a) (if b.isEmpty then 1 else val b)) else none
  | _,_=>none
 | _=>none
def unE:D->Option (Int × Int × Int)
 | .a [.v (.int .i64 a),.v (.int .i64 b),.v (.int .i64 c)]=>some (a,b,c)
 | _=>none
def uW:List (D × D)->Option (List a_)
 | []=>some []
 | e::r=>match unE e.1,unQ e.2,uW r with
  | some a,some x,some s=>some ((a,x)::s)
  | _,_,_=>none
theorem NW:∀ l:List Nat,YJ (LL l)=some l
 | []=>rfl
 | x::l=>by
  have:=NW l;simp only[LL,Qe2]at this ⊢;simp[YJ,unI,this]
theorem LP (a:Int):IU a a=true:=by cases a<;>simp[IU]
theorem IV:∀ l:List Nat,nE (LL l) (LL l)=true
 | []=>rfl
 | x::l=>by
  have:=IV l;simp only[LL,Qe2]at this ⊢;simp[nE,jd,IW,T_,LP,this]
theorem ab6 (x:Rat):unQ (qD x)=some x:=by
 have h1:vX (qs x) (val (qn x)) (if (qd x).isEmpty then 1 else val (qd x))=x:=by
  have e1:val (qn x)=x.num.natAbs:=aW _;have e2:(if (qd x).isEmpty then 1 else val (qd x))=x.den:=by
   unfold qd
   by_cases h:x.den=1
   ·simp[h]
   ·rw[if_neg h];have:enc x.den≠[]:=by rw[Ne,d_];exact x.den_nz
    have:(enc x.den).isEmpty=false:=by simpa using this
    rw[this];simp[aW]
  rw[e1,e2,Iy]
 have h2:jd (qD x) (qD x)=true:=by
  simp[qD,raw,LD,jd,nE,IW,IV]
 have h3:unQ (qD x)=if jd (qD (vX (qs x) (val (qn x)) (if (qd x).isEmpty then 1 else val (qd x)))) (qD x) then some (vX (qs x) (val (qn x)) (if (qd x).isEmpty then 1 else val (qd x))) else none:=by
  simp only[unQ,qD,raw,LD,unL,NW]
 rw[h3,h1,if_pos h2]
theorem BS:∀ l:List a_,uW (l.map iW)=some l
 | []=>rfl
 | (e,x)::l=>by
  have:=BS l;simp[uW,iW,ab6,lM,unE]at this ⊢;simp[this]
theorem Ua {d:D}{x:Rat}(h:unQ d=some x):d=qD x:=by
 unfold unQ at h;split at h
 ·split at h
  ·rename_i a' b' ha hb;generalize vX _ (val a') (if b'.isEmpty then 1 else val b')=y at h;split at h
   ·rename_i hs;cases h;exact(jG hs).symm
   ·cases h
  ·cases h
 ·cases h
theorem zn:∀ {es:List (D × D)} {l:List a_},uW es=some l->es=l.map iW
 | [],l,h=>by simp[uW]at h;subst h;rfl
 | e::es,l,h=>by
  simp only[uW]at h;split at h<;>simp at h;subst h;rename_i a x s h1 h2 h3;rw[Qe2,<-zn h3]
  congr 1
  obtain⟨k,v⟩:=e;simp only at h1 h2;have:=Ua h2;subst this;unfold unE at h1;split at h1
  ·cases h1;rfl
  ·cases h1
def uX (l:List a_):Bool:=decide ((l.map (·.1)).Nodup)&&l.all (fun q=>decide (qz q.2<=100000))&&decide (l.length<=100000)
def BU (args:List FV)(B:List ah):bF :=
 match args with
 | [.m (.old i)]=>match B[i]? with
  | some (.map es)=>match uW es with
   | some l=>if uX l then some (.d (oF l),none) else none
   | none=>none
  | _=>none
 | _=>none
theorem Ub {i:Nat}{B:List ah}{l:List a_}(hB:B[i]?=some (.map (l.map iW)))(hl:uX l=true):BU [.m (.old i)] B=some (.d (oF l),none):=by
 simp[BU,hB,BS,hl]
end Fi.S
noncomputable section
namespace Fi.S
open Go Fi
def qY (sz:Nat)(args:List FV)(B:List ah):bF :=
 match args with
 | [.d (.s eQ [])]=>if eQ=sz then some (.d (.s sz []),none) else none
 | [.d (.s eQ (e::es))]=>if eQ=sz/\(e::es).length<=1000000 then some (.ls (.old B.length) 1 sz 0 (e::es).length,some (B.map (ah.az B.length)++[.row 1 sz (e::es)])) else none
 | _=>none
def E1:Env:={fn:=fn,d9:=d9,iV:=uA,iH:=fun g=>bif Nat.beq g 206 then some BU else bif Nat.beq g 1100 then some (qY 11) else none}
theorem uY:E0.Le E1:=⟨rfl,rfl,rfl,fun g p hp=>by cases hp⟩
theorem Ca.ib {g:Nat}{args:List FV}{x:FV × Option (List ah)}(h:Ca E0 g args x):Ca E1 g args x:=h.up uY
set_option maxHeartbeats 8000000
def lK:List a_->Int × Int × Int->Option Rat
 | [],_=>none
 | (a,y)::r,e=>if e=a then some y else lK r e
def uZ:List a_->Int × Int × Int->Rat->List a_
 | [],e,x=>[(e,x)]
 | (a,y)::r,e,x=>if e=a then(e,x)::r else(a,y)::uZ r e x
def qR (l:List a_)(e:Int × Int × Int)(c:Rat):List a_:=uZ l e ((lK l e).getD 0+c)
theorem IX (e a:Int × Int × Int):kV 5 (lM e) (lM a)=some (decide (e=a)):=by
 obtain⟨x,y,z⟩:=e;obtain⟨x',y',z'⟩:=a;simp only[kV,lM,Qg0,Qr1,if_true,dG,Qd2,X41];rw[Bool.eq_iff_iff];simp
theorem EN (e:Int × Int × Int):∀ l:List a_,zo 5 (lM e) (l.map iW)=some ((lK l e).map qD)
 | []=>rfl
 | (a,y)::r=>by
  simp only[Qe2,zo,iW,IX,lK]
  by_cases h:e=a
  ·simp[h]
  ·have:=EN e r;simp only[decide_eq_false h,if_neg h];exact this
theorem IY (e:Int × Int × Int)(x:Rat):∀ l:List a_,IZ 5 (lM e) (qD x) (l.map iW)=some ((uZ l e x).map iW)
 | []=>rfl
 | (a,y)::r=>by
  simp only[Qe2,IZ,iW,IX,uZ]
  by_cases h:e=a
  ·simp[h,iW]
  ·have:=IY e x r;simp only[decide_eq_false h,if_neg h,this,Qe2,iW]
theorem Uc (e:Int × Int × Int):lN 5 (lM e)=true:=by
 obtain⟨x,y,z⟩:=e;simp[lN,lM,dG]
theorem I6 (n:Nat)(e:Int × Int × Int):CL E1 (n+100) 254 [.d (lM e)] []=some (dI (Gt e),none):=by
 have:=BC n e;rw[jy]at this ⊢;exact rH uY (wF uY _) this
theorem wG:qD 0=.a [vB false,.s 1 [],.s 1 []]:=by
 have h1:qs 0=false:=cK;have h2:qn 0=[]:=dD;have h3:qd 0=[]:=if_pos rfl;simp[qD,raw,h1,h2,h3,LD,LL]
theorem jJ:qz 0<=1:=by
 have h:qz 0=max (sz 0) (sz 1):=rfl;have h0:sz 0=0:=by simp[sz,dD]
 rw[h,Bj,h0];decide
theorem I7 (B:List ah)(i:Nat)(l:List a_)(hB:B[i]?=some (.map (l.map iW)))(e:Int × Int × Int)(c:Rat)(hc:qz c<=50000)(hl:∀ y,lK l e=some y->qz y<=50000)(hd:Gt e<=5) :
  ∃ N B',(∀ k,CL E1 (N+k) 205 [.m (.old i),.d (lM e),.d (qD c)] B=some (.d (.t []),some B'))/\B.length<=B'.length/\B'[i]?=some (.map ((qR l e c).map iW)):=by
 have hz:qz 0<=50000:=Qc2 jJ ae;have hold:qz ((lK l e).getD 0)<=50000:=by
  cases h:lK l e with
  | none=>exact hz
  | some y=>exact hl y h
 obtain⟨N,t⟩:=(Ca.ib (Gn ((lK l e).getD 0) c ae ae)).get;have t2:=fun m=>I6 m e
 have hil:i<B.length:=(bq hB)
 have NY:∀ L,(B++L)[i]?=some (.map (l.map iW)):=fun L=>by rw[Qa0 hil];exact hB
 have hf:=EN e l;have hs:=IY e ((lK l e).getD 0+c) l;have hk:=Uc e;have hput:uZ l e ((lK l e).getD 0+c)=qR l e c:=rfl;rw[hput]at hs;generalize (qR l e c).map iW=es',(lK l e).getD 0+c=sm,l.map iW=es,Gt e=dg at*;refine⟨N+200,((B.set i (ah.map es'))++[ah.box [dI e.1,dI e.2.1,dI e.2.2],ah.box [dB (qs c),.d (LD (qn c)),.d (LD (qd c))]]).map (ah.az B.length),fun k => ?_,aA,by rw[Qb2,Qa0 (by simpa using hil),Qf0 hil];rfl⟩;replace t:=fun j=>t (k+j)
 simp only[<-Qu1]at t;rw[show N+200+k=N+k+200 by omega];generalize N+k=M at*;rw[av rfl (aM 205 f205:E1.fn _=_) rfl];obtain⟨x,y,z⟩:=e;cases hg:lK l (x,y,z) with
 | none =>
  rw[hg]at hf t;simp only[Option.map_none,Option.getD_none,wG]at hf t;simp only[lM,qD,raw]at*;generalize qs c=s,qs sm=s' at*;simp only[LD]at*;generalize LL (qn c)=ns,LL (qd c)=ds,LL (qn sm)=ns',LL (qd sm)=ds' at*;simp[f205,t,t2,hd,uz,NY,hf,hs,hk,hil,FV.az]
 | some u =>
  rw[hg]at hf t;simp only[Q11,Q51]at hf t;simp only[lM,qD,raw]at*;generalize qs c=s,qs sm=s',qs u=s'' at*;simp only[LD]at*;generalize LL (qn c)=ns,LL (qd c)=ds,LL (qn sm)=ns',LL (qd sm)=ds',LL (qn u)=ab7,LL (qd u)=ds'' at*;simp[f205,t,t2,hd,uz,NY,hf,hs,hk,hil,FV.az]
theorem EO (m:Nat)(i:Nat)(B:List ah)(l:List a_)(hB:B[i]?=some (.map (l.map iW)))(hl:uX l=true):CL E1 m 206 [.m (.old i)] B=some (.d (oF l),none):=by
 rw[rG (p:=BU) rfl (z206:E1.fn _=_) rfl,Ub hB hl]
theorem I8 (x:Rat)(hx:qz x<=50000):Ca E1 153 [.d (qD x)] (.d (oF [((0,0,0),0+x)]),none):=by
 have hd:Gt (0,0,0)<=5:=by
  rw[uS rfl rfl rfl];simp
 have hq:qz (0+x)<=100000:=by
  have:=o8 0 x;have:=jJ;omega
 obtain⟨N,B',t,hlen,hB'⟩:=I7 [.box [dB (qs x),.d (LD (qn x)),.d (LD (qd x))],.map []] 1 [] rfl (0,0,0) x hx (fun y h=>by simp[lK]at h) hd;have hput:qR [] (0,0,0) x=[((0,0,0),0+x)]:=rfl;rw[hput]at hB';have hB2:(List.map (ah.az 0) B')[1]?=some (.map (List.map iW [((0,0,0),0+x)])):=by rw[Qb2,hB'];rfl
 have t2:=fun m=>EO m 1 _ [((0,0,0),0+x)] hB2 (by simp[uX,hq])
 generalize hres:oF [((0,0,0),0+x)]=res at*;obtain⟨es,rfl⟩:∃ es,res=.s 6 es:=⟨_,hres.symm⟩
 clear hres;refine Ca.bP (n:=N+100) ?_;rw[av rfl (aM 153 f153:E1.fn _=_) rfl];clear hB' hB2 hput hd hq;simp only[lM,qD,raw]at*;generalize qs x=s at*;simp only[LD]at*;generalize LL (qn x)=ns,LL (qd x)=ds at*;simp[f153,t,t2,FV.az,FV.aP,ah.az]
end Fi.S
