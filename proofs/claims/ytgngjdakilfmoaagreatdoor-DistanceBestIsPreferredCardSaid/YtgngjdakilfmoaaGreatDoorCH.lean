import Derived.Test.YtgngjdakilfmoaaGreatDoorCG
set_option linter.unusedVariables false
set_option linter.unusedSimpArgs false
noncomputable section
namespace Fi.S
open Go Fi
set_option maxHeartbeats 8000000
set_option maxRecDepth 100000
section
abbrev aS:Type:=(Int × Int × Int) × Rat
def dN (p:aS):D × D:=(kF p.1,qD p.2)
def fo (p:aS):List D:=if p.2=0 then [] else [qC p.1 p.2]
section walk
variable {I0:Nat->Prop} {w0:World}
end walk
end
section
theorem QY {a b c:Int × Int × Int}(h1:lL b a=false)(h2:lL c b=false):lL c a=false:=by
 rw[Xo1,Ne,mG]at*;omega
theorem QZ (a b:Int × Int × Int):lL b a=false\/lL a b=false:=by
 rw[Xo1,Xo1,Ne,Ne,mG,mG];omega
theorem Q0 {l l':List D}(hp:l.Perm l')(hnd:(l.map C9).Nodup):l.mergeSort vz=l'.mergeSort vz:=by
 have ht:∀ a b c:D,vz a b=true->vz b c=true->vz a c=true:=by
  intro a b c h1 h2;simp only[vz,Qt1]at*;exact QY h1 h2
 have hto:∀ a b:D,(vz a b||vz b a)=true:=by
  intro a b;simp only[vz,Xm1,Qt1];exact QZ _ _
 refine List.Perm.eq_of_pairwise (le:=fun a b=>vz a b=true) (fun a b ha hb h1 h2 => ?_) (Xw1 ht hto l) (Xw1 ht hto l') (((Q42 l vz).trans hp).trans (Q42 l' vz).symm);simp only[vz,Qt1]at h1 h2;have he:=kN h2 h1;have ha':a ∈ l:=(Q42 l vz).mem_iff.1 ha;have hb':b ∈ l:=hp.mem_iff.2 ((Q42 l' vz).mem_iff.1 hb);obtain⟨i,hi,rfl⟩:=Xd0 ha';obtain⟨j,hj,rfl⟩:=Xd0 hb';have h3:(l.map C9)[i]?=(l.map C9)[j]?:=by simp[hi,hj,he]
 have:=(List.getElem?_inj (by simpa using hi) hnd).1 h3;subst this;rfl
def pM (l:List aS):D:=.s 6 ((l.flatMap fo).mergeSort vz)
theorem Aa (l:List aS):((l.flatMap fo).map C9).Sublist (l.map (·.1)):=by
 induction l with
 | nil=>exact List.Sublist.refl _
 | cons q l ih =>
  simp only[Xc2,Qn0,Qe2]
  by_cases h:q.2=0
  ·rw[show fo q=[] from if_pos h];exact ih.cons q.1
  ·rw[show fo q=[qC q.1 q.2] from if_neg h];exact ih.cons_cons q.1
theorem Q3 (l:List aS):∀ d ∈ l.flatMap fo,Vj d=true:=by
 intro d hd;obtain⟨q,_,hq⟩:=Xk0.1 hd;unfold fo at hq;split at hq
 ·simp at hq
 ·simp only[Qx0]at hq;subst hq;rfl
theorem Da {α β:Type}(f:α->List β):∀ l:List α,(List.range l.length).flatMap (fun i=>(l[i]?).elim [] f)=l.flatMap f
 | []=>rfl
 | a::l=>by
  rw[Qf2,List.range_succ_eq_map,Xc2,List.flatMap_map,Xc2];simp only[Qw1,Option.elim_some,Xl1];rw[Da f l]
theorem Q4 {α:Type}{l:List α}{p:List Nat}(hnd:p.Nodup)(hlt:∀ i ∈ p,i<l.length)(hall:∀ i,i<l.length->i ∈ p){β:Type}(f:α->List β):(p.flatMap fun i=>(l[i]?).elim [] f).Perm (l.flatMap f):=by
 have h1:p.Perm (List.range l.length):=(List.perm_ext_iff_of_nodup hnd List.nodup_range).2 (fun i=>by
  rw[Xw0];exact⟨hlt i,hall i⟩)
 rw[<-Da f l];exact h1.flatMap_right _
section walk
variable {I0:Nat->Prop} {w0:World}
end walk
end
def unI:D->Option Nat
 | .v (.int .u32 n)=>some n.toNat
 | _=>none
def aaj:List D->Option (List Nat)
 | []=>some []
 | d::r=>match unI d,aaj r with
  | some n,some s=>some (n::s)
  | _,_=>none
def unL:D->Option (List Nat)
 | .s _ es=>aaj es
 | _=>none
def unQ (d:D):Option Rat :=
 match d with
 | .a [.v (.bool s),a,b]=>match unL a,unL b with
  | some a,some b=>if kH (qD (wZ s (val a) (if b.isEmpty then 1 else val b))) d then some (wZ s (val a) (if b.isEmpty then 1 else val b)) else none
  | _,_=>none
 | _=>none
def unE:D->Option (Int × Int × Int)
 | .a [.v (.int .i64 a),.v (.int .i64 b),.v (.int .i64 c)]=>some (a,b,c)
 | _=>none
def vW:List (D × D)->Option (List aS)
 | []=>some []
 | e::r=>match unE e.1,unQ e.2,vW r with
  | some a,some x,some s=>some ((a,x)::s)
  | _,_,_=>none
theorem Pf:∀ l:List Nat,aaj (LL l)=some l
 | []=>rfl
 | x::l=>by
  have:=Pf l;simp only[LL,Qe2]at this ⊢;simp[aaj,unI,this]
theorem M4 (a:Int):JR a a=true:=by cases a<;>simp[JR]
theorem JS:∀ l:List Nat,mq (LL l) (LL l)=true
 | []=>rfl
 | x::l=>by
  have:=JS l;simp only[LL,Qe2]at this ⊢;simp[mq,kH,JU,Vm,M4,this]
theorem ad1 (x:Rat):unQ (qD x)=some x:=by
 have h1:wZ (qs x) (val (qn x)) (if (qd x).isEmpty then 1 else val (qd x))=x:=by
  have e1:val (qn x)=x.num.natAbs:=a_ _;have e2:(if (qd x).isEmpty then 1 else val (qd x))=x.den:=by
   unfold qd
   by_cases h:x.den=1
   ·simp[h]
   ·rw[if_neg h];have:enc x.den≠[]:=by rw[Ne,eH];exact x.den_nz
    have:(enc x.den).isEmpty=false:=by simpa using this
    rw[this];simp[a_]
  rw[e1,e2,JE]
 have h2:kH (qD x) (qD x)=true:=by
  simp[qD,raw,LD,kH,mq,JU,JS]
 have h3:unQ (qD x)=if kH (qD (wZ (qs x) (val (qn x)) (if (qd x).isEmpty then 1 else val (qd x)))) (qD x) then some (wZ (qs x) (val (qn x)) (if (qd x).isEmpty then 1 else val (qd x))) else none:=by
  simp only[unQ,qD,raw,LD,unL,Pf]
 rw[h3,h1,if_pos h2]
theorem Db:∀ l:List aS,vW (l.map dN)=some l
 | []=>rfl
 | (e,x)::l=>by
  have:=Db l;simp[vW,dN,ad1,kF,unE]at this ⊢;simp[this]
theorem Vn {d:D}{x:Rat}(h:unQ d=some x):d=qD x:=by
 unfold unQ at h;split at h
 ·split at h
  ·rename_i a' b' ha hb;generalize wZ _ (val a') (if b'.isEmpty then 1 else val b')=y at h;split at h
   ·rename_i hs;cases h;exact(pO hs).symm
   ·cases h
  ·cases h
 ·cases h
theorem Ab:∀ {es:List (D × D)} {l:List aS},vW es=some l->es=l.map dN
 | [],l,h=>by simp[vW]at h;subst h;rfl
 | e::es,l,h=>by
  simp only[vW]at h;split at h<;>simp at h;subst h;rename_i a x s h1 h2 h3;rw[Qe2,<-Ab h3]
  congr 1
  obtain⟨k,v⟩:=e;simp only at h1 h2;have:=Vn h2;subst this;unfold unE at h1;split at h1
  ·cases h1;rfl
  ·cases h1
def vX (l:List aS):Bool:=decide ((l.map (·.1)).Nodup)&&l.all (fun q=>decide (qz q.2<=100000))&&decide (l.length<=100000)
def Dc (args:List FV)(B:List ah):bJ :=
 match args with
 | [.m (.old i)]=>match B[i]? with
  | some (.map es)=>match vW es with
   | some l=>if vX l then some (.d (pM l),none) else none
   | none=>none
  | _=>none
 | _=>none
theorem Vo {i:Nat}{B:List ah}{l:List aS}(hB:B[i]?=some (.map (l.map dN)))(hl:vX l=true):Dc [.m (.old i)] B=some (.d (pM l),none):=by
 simp[Dc,hB,Db,hl]
end Fi.S
noncomputable section
namespace Fi.S
open Go Fi
def r_ (sz:Nat)(args:List FV)(B:List ah):bJ :=
 match args with
 | [.d (.s fE [])]=>if fE=sz then some (.d (.s sz []),none) else none
 | [.d (.s fE (e::es))]=>if fE=sz/\(e::es).length<=1000000 then some (.ls (.old B.length) 1 sz 0 (e::es).length,some (B.map (ah.az B.length)++[.row 1 sz (e::es)])) else none
 | _=>none
def E1:Env:={fn:=fn,eG:=eG,jq:=ve,iO:=fun g=>bif Nat.beq g 206 then some Dc else bif Nat.beq g 1100 then some (r_ 11) else none}
theorem vY:E0.Le E1:=⟨rfl,rfl,rfl,fun g p hp=>by cases hp⟩
theorem Ca.gM {g:Nat}{args:List FV}{x:FV × Option (List ah)}(h:Ca E0 g args x):Ca E1 g args x:=h.up vY
set_option maxHeartbeats 8000000
def jf:List aS->Int × Int × Int->Option Rat
 | [],_=>none
 | (a,y)::r,e=>if e=a then some y else jf r e
def u6:List aS->Int × Int × Int->Rat->List aS
 | [],e,x=>[(e,x)]
 | (a,y)::r,e,x=>if e=a then(e,x)::r else(a,y)::u6 r e x
def nE (l:List aS)(e:Int × Int × Int)(c:Rat):List aS:=u6 l e ((jf l e).getD 0+c)
theorem JV (e a:Int × Int × Int):lM 5 (kF e) (kF a)=some (decide (e=a)):=by
 obtain⟨x,y,z⟩:=e;obtain⟨x',y',z'⟩:=a;simp only[lM,kF,Qf2,Qs0,if_true,dL,Qe0,X01];rw[Bool.eq_iff_iff];simp
theorem y7 (e:Int × Int × Int):∀ l:List aS,Ac 5 (kF e) (l.map dN)=some ((jf l e).map qD)
 | []=>rfl
 | (a,y)::r=>by
  simp only[Qe2,Ac,dN,JV,jf]
  by_cases h:e=a
  ·simp[h]
  ·have:=y7 e r;simp only[decide_eq_false h,if_neg h];exact this
theorem De (e:Int × Int × Int)(x:Rat):∀ l:List aS,JW 5 (kF e) (qD x) (l.map dN)=some ((u6 l e x).map dN)
 | []=>rfl
 | (a,y)::r=>by
  simp only[Qe2,JW,dN,JV,u6]
  by_cases h:e=a
  ·simp[h,dN]
  ·have:=De e x r;simp only[decide_eq_false h,if_neg h,this,Qe2,dN]
theorem JX (e:Int × Int × Int):mr 5 (kF e)=true:=by
 obtain⟨x,y,z⟩:=e;simp[mr,kF,dL]
theorem sS (n:Nat)(e:Int × Int × Int):CL E1 (n+100) 254 [.d (kF e)] []=some (dI (uY e),none):=by
 have:=Ct n e;rw[jS]at this ⊢;exact sU vY (xB vY _) this
theorem uE:qD 0=.a [vB false,.s 1 [],.s 1 []]:=by
 have h1:qs 0=false:=bS;have h2:qn 0=[]:=dH;have h3:qd 0=[]:=if_pos rfl;simp[qD,raw,h1,h2,h3,LD,LL]
theorem jD:qz 0<=1:=by
 have h:qz 0=max (sz 0) (sz 1):=rfl;have h0:sz 0=0:=by simp[sz,dH]
 rw[h,Ce,h0];decide
theorem JZ (B:List ah)(i:Nat)(l:List aS)(hB:B[i]?=some (.map (l.map dN)))(e:Int × Int × Int)(c:Rat)(hc:qz c<=50000)(hl:∀ y,jf l e=some y->qz y<=50000)(hd:uY e<=5) :
  ∃ N B',(∀ k,CL E1 (N+k) 205 [.m (.old i),.d (kF e),.d (qD c)] B=some (.d (.t []),some B'))/\B.length<=B'.length/\B'[i]?=some (.map ((nE l e c).map dN)):=by
 have hz:qz 0<=50000:=Qc1 jD ae;have hold:qz ((jf l e).getD 0)<=50000:=by
  cases h:jf l e with
  | none=>exact hz
  | some y=>exact hl y h
 obtain⟨N,t⟩:=(Ca.gM (Bn ((jf l e).getD 0) c ae ae)).get;have t2:=fun m=>sS m e
 have hil:i<B.length:=(aT hB)
 have J3:∀ L,(B++L)[i]?=some (.map (l.map dN)):=fun L=>by rw[Qa0 hil];exact hB
 have hf:=y7 e l;have hs:=De e ((jf l e).getD 0+c) l;have hk:=JX e;have hput:u6 l e ((jf l e).getD 0+c)=nE l e c:=rfl;rw[hput]at hs;generalize (nE l e c).map dN=es',(jf l e).getD 0+c=sm,l.map dN=es,uY e=dg at*;refine⟨N+200,((B.set i (ah.map es'))++[ah.box [dI e.1,dI e.2.1,dI e.2.2],ah.box [dB (qs c),.d (LD (qn c)),.d (LD (qd c))]]).map (ah.az B.length),fun k => ?_,aC,by rw[Qb1,Qa0 (by simpa using hil),Qd1 hil];rfl⟩;replace t:=fun j=>t (k+j)
 simp only[<-Qr0]at t;rw[show N+200+k=N+k+200 by omega];generalize N+k=M at*;rw[aA rfl (aO 205 f205:E1.fn _=_) rfl];obtain⟨x,y,z⟩:=e;cases hg:jf l (x,y,z) with
 | none =>
  rw[hg]at hf t;simp only[X30,Option.getD_none,uE]at hf t;simp only[kF,qD,raw]at*;generalize qs c=s,qs sm=s' at*;simp only[LD]at*;generalize LL (qn c)=ns,LL (qd c)=ds,LL (qn sm)=ns',LL (qd sm)=ds' at*;simp[f205,t,t2,hd,rH,J3,hf,hs,hk,hil,FV.az]
 | some u =>
  rw[hg]at hf t;simp only[Q11,Q12]at hf t;simp only[kF,qD,raw]at*;generalize qs c=s,qs sm=s',qs u=s'' at*;simp only[LD]at*;generalize LL (qn c)=ns,LL (qd c)=ds,LL (qn sm)=ns',LL (qd sm)=ds',LL (qn u)=Q5,LL (qd u)=ds'' at*;simp[f205,t,t2,hd,rH,J3,hf,hs,hk,hil,FV.az]
theorem FQ (m:Nat)(i:Nat)(B:List ah)(l:List aS)(hB:B[i]?=some (.map (l.map dN)))(hl:vX l=true):CL E1 m 206 [.m (.old i)] B=some (.d (pM l),none):=by
 rw[sQ (p:=Dc) rfl (z206:E1.fn _=_) rfl,Vo hB hl]
theorem J4 (x:Rat)(hx:qz x<=50000):Ca E1 153 [.d (qD x)] (.d (pM [((0,0,0),0+x)]),none):=by
 have hd:uY (0,0,0)<=5:=by
  rw[vV rfl rfl rfl];simp
 have hq:qz (0+x)<=100000:=by
  have:=qw 0 x;have:=jD;omega
 obtain⟨N,B',t,hlen,hB'⟩:=JZ [.box [dB (qs x),.d (LD (qn x)),.d (LD (qd x))],.map []] 1 [] rfl (0,0,0) x hx (fun y h=>by simp[jf]at h) hd;have hput:nE [] (0,0,0) x=[((0,0,0),0+x)]:=rfl;rw[hput]at hB';have hB2:(List.map (ah.az 0) B')[1]?=some (.map (List.map dN [((0,0,0),0+x)])):=by rw[Qb1,hB'];rfl
 have t2:=fun m=>FQ m 1 _ [((0,0,0),0+x)] hB2 (by simp[vX,hq])
 generalize hres:pM [((0,0,0),0+x)]=res at*;obtain⟨es,rfl⟩:∃ es,res=.s 6 es:=⟨_,hres.symm⟩
 clear hres;refine Ca.bQ (n:=N+100) ?_;rw[aA rfl (aO 153 f153:E1.fn _=_) rfl];clear hB' hB2 hput hd hq;simp only[kF,qD,raw]at*;generalize qs x=s at*;simp only[LD]at*;generalize LL (qn x)=ns,LL (qd x)=ds at*;simp[f153,t,t2,FV.az,FV.aP,ah.az]
end Fi.S
