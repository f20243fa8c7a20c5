import Derived.Test.YtckkhcnfdmlabaaGreatDoorCG
set_option linter.unusedVariables false
set_option linter.unusedSimpArgs false
noncomputable section
namespace Fi.S
open Go Fi
set_option maxHeartbeats 8000000
set_option maxRecDepth 100000
section
abbrev bz:Type:=(Int × Int × Int) × Rat
def iU (p:bz):D × D:=(mf p.1,qD p.2)
def d_ (p:bz):List D:=if p.2=0 then [] else [qC p.1 p.2]
section walk
variable {I0:Nat->Prop} {w0:World}
end walk
end
section
theorem PS {a b c:Int × Int × Int}(h1:ku b a=false)(h2:ku c b=false):ku c a=false:=by
 rw[Bool.eq_false_iff,Ne,mD]at*;omega
theorem PT (a b:Int × Int × Int):ku b a=false\/ku a b=false:=by
 rw[Bool.eq_false_iff,Bool.eq_false_iff,Ne,Ne,mD,mD];omega
theorem PU {l l':List D}(hp:l.Perm l')(hnd:(l.map C_).Nodup):l.mergeSort vg=l'.mergeSort vg:=by
 have ht:∀ a b c:D,vg a b=true->vg b c=true->vg a c=true:=by
  intro a b c h1 h2;simp only[vg,Bool.not_eq_true']at*;exact PS h1 h2
 have hto:∀ a b:D,(vg a b||vg b a)=true:=by
  intro a b;simp only[vg,Bool.or_eq_true,Bool.not_eq_true'];exact PT _ _
 refine List.Perm.eq_of_pairwise (le:=fun a b=>vg a b=true) (fun a b ha hb h1 h2 => ?_) (List.pairwise_mergeSort ht hto l) (List.pairwise_mergeSort ht hto l') (((List.mergeSort_perm l vg).trans hp).trans (List.mergeSort_perm l' vg).symm);simp only[vg,Bool.not_eq_true']at h1 h2;have he:=kG h2 h1;have ha':a ∈ l:=(List.mergeSort_perm l vg).mem_iff.1 ha;have hb':b ∈ l:=hp.mem_iff.2 ((List.mergeSort_perm l' vg).mem_iff.1 hb);obtain⟨i,hi,rfl⟩:=List.getElem_of_mem ha';obtain⟨j,hj,rfl⟩:=List.getElem_of_mem hb';have h3:(l.map C_)[i]?=(l.map C_)[j]?:=by simp[hi,hj,he]
 have:=(List.getElem?_inj (by simpa using hi) hnd).1 h3;subst this;rfl
def pE (l:List bz):D:=.s 6 ((l.flatMap d_).mergeSort vg)
theorem Ad (l:List bz):((l.flatMap d_).map C_).Sublist (l.map (·.1)):=by
 induction l with
 | nil=>exact List.Sublist.refl _
 | cons q l ih =>
  simp only[List.flatMap_cons,List.map_append,List.map_cons]
  by_cases h:q.2=0
  ·rw[show d_ q=[] from if_pos h];exact ih.cons q.1
  ·rw[show d_ q=[qC q.1 q.2] from if_neg h];exact ih.cons_cons q.1
theorem PW (l:List bz):∀ d ∈ l.flatMap d_,Ub d=true:=by
 intro d hd;obtain⟨q,_,hq⟩:=List.mem_flatMap.1 hd;unfold d_ at hq;split at hq
 ·simp at hq
 ·simp only[List.mem_singleton]at hq;subst hq;rfl
theorem Db {α β:Type}(f:α->List β):∀ l:List α,(List.range l.length).flatMap (fun i=>(l[i]?).elim [] f)=l.flatMap f
 | []=>rfl
 | a::l=>by
  rw[List.length_cons,List.range_succ_eq_map,List.flatMap_cons,List.flatMap_map,List.flatMap_cons];simp only[List.getElem?_cons_zero,Option.elim_some,List.getElem?_cons_succ];rw[Db f l]
theorem PX {α:Type}{l:List α}{p:List Nat}(hnd:p.Nodup)(hlt:∀ i ∈ p,i<l.length)(hall:∀ i,i<l.length->i ∈ p){β:Type}(f:α->List β):(p.flatMap fun i=>(l[i]?).elim [] f).Perm (l.flatMap f):=by
 have h1:p.Perm (List.range l.length):=(List.perm_ext_iff_of_nodup hnd List.nodup_range).2 (fun i=>by
  rw[List.mem_range];exact⟨hlt i,hall i⟩)
 rw[<-Db f l];exact h1.flatMap_right _
section walk
variable {I0:Nat->Prop} {w0:World}
end walk
end
def unI:D->Option Nat
 | .v (.int .u32 n)=>some n.toNat
 | _=>none
def YD:List D->Option (List Nat)
 | []=>some []
 | d::r=>match unI d,YD r with
  | some n,some s=>some (n::s)
  | _,_=>none
def unL:D->Option (List Nat)
 | .s _ es=>YD es
 | _=>none
def unQ (d:D):Option Rat :=
 match d with
 | .a [.v (.bool s),a,b]=>match unL a,unL b with
  | some a,some b=>if jO (qD (w9 s (val a) (if b.isEmpty then 1 else val b))) d then some (w9 s (val a) (if b.isEmpty then 1 else val b)) else none
  | _,_=>none
 | _=>none
def unE:D->Option (Int × Int × Int)
 | .a [.v (.int .i64 a),.v (.int .i64 b),.v (.int .i64 c)]=>some (a,b,c)
 | _=>none
def vW:List (D × D)->Option (List bz)
 | []=>some []
 | e::r=>match unE e.1,unQ e.2,vW r with
  | some a,some x,some s=>some ((a,x)::s)
  | _,_,_=>none
theorem NR:∀ l:List Nat,YD (LL l)=some l
 | []=>rfl
 | x::l=>by
  have:=NR l;simp only[LL,List.map_cons]at this ⊢;simp[YD,unI,this]
theorem LZ (a:Int):Jk a a=true:=by cases a<;>simp[Jk]
theorem Jl:∀ l:List Nat,dU (LL l) (LL l)=true
 | []=>rfl
 | x::l=>by
  have:=Jl l;simp only[LL,List.map_cons]at this ⊢;simp[dU,jO,Jm,Ue,LZ,this]
theorem ab' (x:Rat):unQ (qD x)=some x:=by
 have h1:w9 (qs x) (val (qn x)) (if (qd x).isEmpty then 1 else val (qd x))=x:=by
  have e1:val (qn x)=x.num.natAbs:=aX _;have e2:(if (qd x).isEmpty then 1 else val (qd x))=x.den:=by
   unfold qd
   by_cases h:x.den=1
   ·simp[h]
   ·rw[if_neg h];have:enc x.den≠[]:=by rw[Ne,dQ];exact x.den_nz
    have:(enc x.den).isEmpty=false:=by simpa using this
    rw[this];simp[aX]
  rw[e1,e2,IZ]
 have h2:jO (qD x) (qD x)=true:=by
  simp[qD,raw,LD,jO,dU,Jm,Jl]
 have h3:unQ (qD x)=if jO (qD (w9 (qs x) (val (qn x)) (if (qd x).isEmpty then 1 else val (qd x)))) (qD x) then some (w9 (qs x) (val (qn x)) (if (qd x).isEmpty then 1 else val (qd x))) else none:=by
  simp only[unQ,qD,raw,LD,unL,NR]
 rw[h3,h1,if_pos h2]
theorem Dc:∀ l:List bz,vW (l.map iU)=some l
 | []=>rfl
 | (e,x)::l=>by
  have:=Dc l;simp[vW,iU,ab',mf,unE]at this ⊢;simp[this]
theorem Uf {d:D}{x:Rat}(h:unQ d=some x):d=qD x:=by
 unfold unQ at h;split at h
 ·split at h
  ·rename_i a' b' ha hb;generalize w9 _ (val a') (if b'.isEmpty then 1 else val b')=y at h;split at h
   ·rename_i hs;cases h;exact(nD hs).symm
   ·cases h
  ·cases h
 ·cases h
theorem Ae:∀ {es:List (D × D)} {l:List bz},vW es=some l->es=l.map iU
 | [],l,h=>by simp[vW]at h;subst h;rfl
 | e::es,l,h=>by
  simp only[vW]at h;split at h<;>simp at h;subst h;rename_i a x s h1 h2 h3;rw[List.map_cons,<-Ae h3]
  congr 1
  obtain⟨k,v⟩:=e;simp only at h1 h2;have:=Uf h2;subst this;unfold unE at h1;split at h1
  ·cases h1;rfl
  ·cases h1
def vX (l:List bz):Bool:=decide ((l.map (·.1)).Nodup)&&l.all (fun q=>decide (qz q.2<=100000))&&decide (l.length<=100000)
def De (args:List FV)(B:List ae):bH :=
 match args with
 | [.m (.old i)]=>match B[i]? with
  | some (.map es)=>match vW es with
   | some l=>if vX l then some (.d (pE l),none) else none
   | none=>none
  | _=>none
 | _=>none
theorem Ug {i:Nat}{B:List ae}{l:List bz}(hB:B[i]?=some (.map (l.map iU)))(hl:vX l=true):De [.m (.old i)] B=some (.d (pE l),none):=by
 simp[De,hB,Dc,hl]
end Fi.S
noncomputable section
namespace Fi.S
open Go Fi
def rV (sz:Nat)(args:List FV)(B:List ae):bH :=
 match args with
 | [.d (.s eG [])]=>if eG=sz then some (.d (.s sz []),none) else none
 | [.d (.s eG (e::es))]=>if eG=sz/\(e::es).length<=1000000 then some (.ls (.old B.length) 1 sz 0 (e::es).length,some (B.map (ae.aA B.length)++[.row 1 sz (e::es)])) else none
 | _=>none
def E1:Env:={fn:=fn,dZ:=dZ,ja:=uZ,iA:=fun g=>bif Nat.beq g 206 then some De else bif Nat.beq g 1100 then some (rV 11) else none}
theorem vY:E0.Le E1:=⟨rfl,rfl,rfl,fun g p hp=>by cases hp⟩
theorem Ca.dW {g:Nat}{args:List FV}{x:FV × Option (List ae)}(h:Ca E0 g args x):Ca E1 g args x:=h.up vY
end Fi.S
namespace Fi.S
open Go Fi
set_option maxHeartbeats 8000000
def l5:List bz->Int × Int × Int->Option Rat
 | [],_=>none
 | (a,y)::r,e=>if e=a then some y else l5 r e
def vZ:List bz->Int × Int × Int->Rat->List bz
 | [],e,x=>[(e,x)]
 | (a,y)::r,e,x=>if e=a then(e,x)::r else(a,y)::vZ r e x
def rO (l:List bz)(e:Int × Int × Int)(c:Rat):List bz:=vZ l e ((l5 l e).getD 0+c)
theorem Jn (e a:Int × Int × Int):lD 5 (mf e) (mf a)=some (decide (e=a)):=by
 obtain⟨x,y,z⟩:=e;obtain⟨x',y',z'⟩:=a;simp only[lD,mf,List.length_cons,List.length_nil,if_true,dw,Option.some.injEq,Bool.and_true];rw[Bool.eq_iff_iff];simp
theorem Fw (e:Int × Int × Int):∀ l:List bz,Af 5 (mf e) (l.map iU)=some ((l5 l e).map qD)
 | []=>rfl
 | (a,y)::r=>by
  simp only[List.map_cons,Af,iU,Jn,l5]
  by_cases h:e=a
  ·simp[h]
  ·have:=Fw e r;simp only[decide_eq_false h,if_neg h];exact this
theorem Jo (e:Int × Int × Int)(x:Rat):∀ l:List bz,Jp 5 (mf e) (qD x) (l.map iU)=some ((vZ l e x).map iU)
 | []=>rfl
 | (a,y)::r=>by
  simp only[List.map_cons,Jp,iU,Jn,vZ]
  by_cases h:e=a
  ·simp[h,iU]
  ·have:=Jo e x r;simp only[decide_eq_false h,if_neg h,this,List.map_cons,iU]
theorem Uh (e:Int × Int × Int):mi 5 (mf e)=true:=by
 obtain⟨x,y,z⟩:=e;simp[mi,mf,dw]
theorem Jq (n:Nat)(e:Int × Int × Int):CL E1 (n+100) 254 [.d (mf e)] []=some (.d (.v (.int .i64 (GN e))),none):=by
 have:=Cq n e;rw[jN]at this ⊢;exact sS vY (xA vY _) this
theorem xB:qD 0=.a [.v (.bool false),.s 1 [],.s 1 []]:=by
 have h1:qs 0=false:=by decide
 have h2:qn 0=[]:=cK;have h3:qd 0=[]:=if_pos rfl;simp[qD,raw,h1,h2,h3,LD,LL]
theorem jP:qz 0<=1:=by
 have h:qz 0=max (sz 0) (sz 1):=rfl;have h0:sz 0=0:=by simp[sz,cK]
 rw[h,BZ,h0];decide
theorem Jr (B:List ae)(i:Nat)(l:List bz)(hB:B[i]?=some (.map (l.map iU)))(e:Int × Int × Int)(c:Rat)(hc:qz c<=50000)(hl:∀ y,l5 l e=some y->qz y<=50000)(hd:GN e<=5) :
  ∃ N B',(∀ k,CL E1 (N+k) 205 [.m (.old i),.d (mf e),.d (qD c)] B=some (.d (.t []),some B'))/\B.length<=B'.length/\B'[i]?=some (.map ((rO l e c).map iU)):=by
 have hz:qz 0<=50000:=Nat.le_trans jP (by omega);have hold:qz ((l5 l e).getD 0)<=50000:=by
  cases h:l5 l e with
  | none=>exact hz
  | some y=>exact hl y h
 obtain⟨N,t⟩:=(Ca.dW (GJ ((l5 l e).getD 0) c (by omega) (by omega))).get;have t2:=fun m=>Jq m e
 have hil:i<B.length:=(aW hB)
 have NS:∀ L,(B++L)[i]?=some (.map (l.map iU)):=fun L=>by rw[List.getElem?_append_left hil];exact hB
 have hf:=Fw e l;have hs:=Jo e ((l5 l e).getD 0+c) l;have hk:=Uh e;have hput:vZ l e ((l5 l e).getD 0+c)=rO l e c:=rfl;rw[hput]at hs;generalize (rO l e c).map iU=es',(l5 l e).getD 0+c=sm,l.map iU=es,GN e=dg at*;refine⟨N+200,((B.set i (ae.map es'))++[ae.box [.d (.v (.int .i64 e.1)),.d (.v (.int .i64 e.2.1)),.d (.v (.int .i64 e.2.2))],ae.box [.d (.v (.bool (qs c))),.d (LD (qn c)),.d (LD (qd c))]]).map (ae.aA B.length),fun k => ?_,by simp,by rw[List.getElem?_map,List.getElem?_append_left (by simpa using hil),List.getElem?_set_self hil];rfl⟩;replace t:=fun j=>t (k+j)
 simp only[<-Nat.add_assoc]at t;rw[show N+200+k=N+k+200 by omega];generalize N+k=M at*;rw[av rfl (k205:E1.fn _=_) rfl];obtain⟨x,y,z⟩:=e;cases hg:l5 l (x,y,z) with
 | none =>
  rw[hg]at hf t;simp only[Option.map_none,Option.getD_none,xB]at hf t;simp only[mf,qD,raw]at*;generalize qs c=s,qs sm=s' at*;simp only[LD]at*;generalize LL (qn c)=ns,LL (qd c)=ds,LL (qn sm)=ns',LL (qd sm)=ds' at*;simp -implicitDefEqProofs[f205,t,t2,hd,gZ,NS,hf,hs,hk,hil,FV.aA]
 | some u =>
  rw[hg]at hf t;simp only[Option.map_some,Option.getD_some]at hf t;simp only[mf,qD,raw]at*;generalize qs c=s,qs sm=s',qs u=s'' at*;simp only[LD]at*;generalize LL (qn c)=ns,LL (qd c)=ds,LL (qn sm)=ns',LL (qd sm)=ds',LL (qn u)=aca,LL (qd u)=ds'' at*;simp -implicitDefEqProofs[f205,t,t2,hd,gZ,NS,hf,hs,hk,hil,FV.aA]
theorem Fx (m:Nat)(i:Nat)(B:List ae)(l:List bz)(hB:B[i]?=some (.map (l.map iU)))(hl:vX l=true):CL E1 m 206 [.m (.old i)] B=some (.d (pE l),none):=by
 rw[sQ (p:=De) rfl (z206:E1.fn _=_) rfl,Ug hB hl]
theorem Js (x:Rat)(hx:qz x<=50000):Ca E1 153 [.d (qD x)] (.d (pE [((0,0,0),0+x)]),none):=by
 have hd:GN (0,0,0)<=5:=by
  rw[vS rfl rfl rfl];simp
 have hq:qz (0+x)<=100000:=by
  have:=qm 0 x;have:=jP;omega
 obtain⟨N,B',t,hlen,hB'⟩:=Jr [.box [.d (.v (.bool (qs x))),.d (LD (qn x)),.d (LD (qd x))],.map []] 1 [] rfl (0,0,0) x hx (fun y h=>by simp[l5]at h) hd;have hput:rO [] (0,0,0) x=[((0,0,0),0+x)]:=rfl;rw[hput]at hB';have hB2:(List.map (ae.aA 0) B')[1]?=some (.map (List.map iU [((0,0,0),0+x)])):=by rw[List.getElem?_map,hB'];rfl
 have t2:=fun m=>Fx m 1 _ [((0,0,0),0+x)] hB2 (by simp[vX,hq])
 generalize hres:pE [((0,0,0),0+x)]=res at*;obtain⟨es,rfl⟩:∃ es,res=.s 6 es:=⟨_,hres.symm⟩
 clear hres;refine Ca.bD (n:=N+100) ?_;rw[av rfl (k153:E1.fn _=_) rfl];clear hB' hB2 hput hd hq;simp only[mf,qD,raw]at*;generalize qs x=s at*;simp only[LD]at*;generalize LL (qn x)=ns,LL (qd x)=ds at*;simp -implicitDefEqProofs[f153,t,t2,FV.aA,FV.aR,ae.aA]
end Fi.S
