import Derived.Test.YtckkhcnfdmlabaaGreatDoorCB
set_option linter.unusedVariables false
set_option linter.unusedSimpArgs false
noncomputable section
namespace Fi.S
open Go Fi
set_option maxHeartbeats 8000000
theorem Ca.same {E:Env}{g g':Nat}{args:List FV}{r:FV × Option (List ae)}(hf:E.fn g'=E.fn g)(hp:E.iR g=none)(hp':E.iR g'=none)(h:Ca E g args r)(hB:E.ik g'=E.ik g:=by rfl):Ca E g' args r:=by
 obtain⟨n0,h⟩:=h;refine⟨n0+1,fun n hn => ?_⟩;obtain⟨m,rfl⟩:∃ m,n=m+1:=⟨n-1,by omega⟩
 rw[<-h (m+1) (by omega)];simp only[bU,enter,hf,hp,hp',hB]
theorem vC (l:List Nat)(hl:l.length<=1000000000):Ca E0 169 [.d (LD l)] (.d (LD (trim l)),none) :=
 Ca.same (g:=231) ((k169:E0.fn _=_).trans (k231:E0.fn _=_).symm) rfl rfl (gY l hl)
theorem vD (n:Nat)(l:List Nat)(hl:l.length<=1000000000)(i:Nat)(hi:i<=1000000000)(hb:∀ x ∈ l,x<4294967296) :
  CL E0 (n+30) 173 [.d (LD l),.d (.v (.int .i64 i))] []=some (.d (.v (.int .u64 (bE l i))),none):=by
 rw[ak rfl (k173:E0.fn _=_) rfl]
 by_cases h:i<l.length
 ·have h1:¬ ((i:Int) ≥ (l.length:Int)):=by omega
  have h2:¬ ((l.length:Int)<=(i:Int)):=by omega
  have h3:¬ (l.length<=i):=by omega
  have hx:l[i]?=some l[i]:=List.getElem?_eq_getElem h;have hw:ah .u64 (l[i]:Int)=(l[i]:Int):=wrap_u64 (by have:=hb l[i] (List.getElem_mem h);omega);have ha:bE l i=l[i]:=by simp[bE,hx]
  simp -implicitDefEqProofs[f173,LD,LL,h,h1,h2,h3,hx,hw,ha]
 ·have h1:((i:Int) ≥ (l.length:Int)):=by omega
  have h2:l.length<=i:=by omega
  have ha:bE l i=0:=by simp[bE,List.getElem?_eq_none (Nat.le_of_not_lt h)]
  simp -implicitDefEqProofs[f173,LD,LL,h1,h2,ha]
theorem Hu (n:Nat)(v:Int):CL E0 (n+30) 174 [.d (.v (.int .i64 v))] []=some (.d (.v (.int .i64 v.sign)),none):=by
 rw[ak rfl (k174:E0.fn _=_) rfl];rcases Int.lt_trichotomy v 0 with h|h|h
 ·rw[Int.sign_eq_neg_one_of_neg h];simp -implicitDefEqProofs[f174,h]
 ·rw[h];simp -implicitDefEqProofs[f174]
 ·have h2:¬ v<0:=by omega
  rw[Int.sign_eq_one_of_pos h];simp -implicitDefEqProofs[f174,h,h2]
theorem AO (n:Nat)(l:List Nat):CL E0 (n+30) 172 [.d (LD l)] []=some (.d (.v (.bool (decide (l=[1])))),none):=by
 rw[ak rfl (k172:E0.fn _=_) rfl]
 match l with
 | []=>simp -implicitDefEqProofs[f172,LD,LL]
 | [x] =>
  by_cases h:x=1
  ·subst h;simp -implicitDefEqProofs[f172,LD,LL]
  ·have h2:((x:Int)==1)=false:=by simp;omega
   simp -implicitDefEqProofs[f172,LD,LL,h,h2]
 | x::y::r =>
  have h2:(((r.length:Int)+1+1)==1)=false:=by simp;omega
  have h3:(((r.length:Int)+1)==0)=false:=by simp;omega
  simp -implicitDefEqProofs[f172,LD,LL,h2,h3]
def Y8:aH:=f91.body.r.r.l.r.bl.lp
def QO (a b:List Nat)(k:Int)(t:FV):St:=(st0 [.d (LD a),.d (LD b),.u,.d (.v (.int .i64 k)),.u,t,.u] [])
def Y9 (s:Int):St:=(st0 [.u,.u,.d (.v (.int .i64 s)),.u,.u,.u,.u] [])
theorem RN (a b:List Nat):EX E0 40 Y8 (QO a b (-1) .u)=some (.exit 0,QO a b (-1) (.d (.v (.bool false)))):=by
 unfold QO;simp only[LD];generalize LL a=as',LL b=bs at*;simp -implicitDefEqProofs[Y8,f91]
theorem Kv (a b:List Nat)(k x y:Nat)(hk:k<=1000000000)(hx:a[k]?=some x)(hy:b[k]?=some y)(hxl:x<4294967296)(hyl:y<4294967296) :
  EX E0 80 Y8 (QO a b k .u)=if x=y then some (.norm,QO a b ((k:Int)-1) .u) else some (.ret,Y9 ((x:Int)-(y:Int)).sign):=by
 have hxa:(LL a)[k]?=some (.v (.int .u32 (x:Int))):=by simp[LL,hx]
 have hxb:(LL b)[k]?=some (.v (.int .u32 (y:Int))):=by simp[LL,hy]
 have ha:k<(LL a).length:=by simpa[LL] using(bH hx)
 have hb:k<(LL b).length:=by simpa[LL] using(bH hy)
 have hdec:ah .i64 ((k:Int)-1)=(k:Int)-1:=wrap_i64 (by omega);have hk0:(0:Int)<=(k:Int):=by omega
 have w1:ah .i64 (x:Int)=(x:Int):=wrap_i64 (by omega);have w2:ah .i64 (y:Int)=(y:Int):=wrap_i64 (by omega);have w3:ah .i64 ((x:Int)-(y:Int))=(x:Int)-(y:Int):=wrap_i64 (by omega);have hs:=Hu;unfold QO Y9;simp only[LD];generalize LL a=as',LL b=bs at*;have i1:=idx hxa;have i2:=idx hxb
 by_cases h:x=y
 ·rw[if_pos h];subst h;simp -implicitDefEqProofs[Y8,f91,hk0,ha,hb,hxa,hxb,i1,i2,hdec]
 ·have hne:((x:Int) != (y:Int))=true:=by simp;omega
  rw[if_neg h];simp -implicitDefEqProofs[Y8,f91,hk0,ha,hb,hxa,hxb,i1,i2,hne,w1,w2,w3,hs]
theorem xE (l:List Nat)(k:Nat):val l=bW l k+4294967296 ^ k*val (l.drop k):=by
 unfold bW;rcases Nat.le_total k l.length with h|h
 ·conv=>lhs;rw[<-List.take_append_drop k l,val_append,List.length_take,Nat.min_eq_left h]
 ·rw[List.take_of_length_le h,g_ h,Nat.mul_zero,Nat.add_zero]
theorem Ox (a b:List Nat)(ha:bT a)(hb:bT b)(hl:a.length=b.length)(hm:a.length<=1000000000) :
  ∃ r,Ex E0 (.loop Y8) (QO a b ((a.length:Int)-1) .u) r/\((r=(.exit 0,QO a b (-1) (.d (.v (.bool false))))/\val a=val b)\/∃ s,r=(.ret,Y9 s)/\s=dL (val a) (val b)):=by
 refine Ex.inv (S:=fun j:Nat=>QO a b ((j:Int)-1) .u) (fun j=>j) (fun j=>j<=a.length/\val (a.drop j)=val (b.drop j)) _ ?_ a.length ?_
 ·rintro j ⟨h1,h2⟩;cases j with
  | zero =>
   refine .inr ⟨_,?_,by simp,.inl ⟨rfl,by simpa using h2⟩⟩;have:=RN a b;simpa using Ex.of this
  | succ k =>
   have hx:a[k]?=some (a[k]'(by omega)):=List.getElem?_eq_getElem (by omega);have hy:b[k]?=some (b[k]'(by omega)):=List.getElem?_eq_getElem (by omega);have ex:bE a k=a[k]'(by omega):=by simp[bE,hx]
   have ey:bE b k=b[k]'(by omega):=by simp[bE,hy]
   have hxl:=ha _ (List.getElem_mem (show k<a.length by omega));have hyl:=hb _ (List.getElem_mem (show k<b.length by omega));generalize a[k]'(by omega)=x,b[k]'(by omega)=y at*;have hr:=Kv a b k x y (by omega) hx hy hxl hyl;simp only[show(((k+1:Nat):Int)-1)=(k:Int) by omega];have da:=iQ a k;have db:=iQ b k
   by_cases h:x=y
   ·rw[if_pos h]at hr;refine .inl ⟨k,Ex.of hr,by omega,by omega,?_⟩;rw[da,db,ex,ey,h,h2]
   ·rw[if_neg h]at hr;refine .inr ⟨_,Ex.of hr,by simp,.inr ⟨_,rfl,?_⟩⟩;have sa:=xE a k;have sb:=xE b k;rw[da,ex]at sa;rw[db,ey,<-h2]at sb;have la:=nL ha k;have lb:=nL hb k;unfold dL;rcases Nat.lt_or_gt_of_ne h with hlt|hgt
    ·have:=jq (va:=bW a k) (vb:=bW b k) (P:=4294967296 ^ k) (x:=x+4294967296*val (a.drop (k+1))) (y:=y+4294967296*val (a.drop (k+1))) la (by omega);rw[if_pos (by omega),Int.sign_eq_neg_one_of_neg (by omega)]
    ·have:=jq (va:=bW b k) (vb:=bW a k) (P:=4294967296 ^ k) (x:=y+4294967296*val (a.drop (k+1))) (y:=x+4294967296*val (a.drop (k+1))) lb (by omega);rw[if_neg (by omega),if_neg (by omega),Int.sign_eq_one_of_pos (by omega)]
 ·exact⟨Nat.le_refl _,by rw[g_ (Nat.le_refl _),g_ (by omega)]⟩
theorem MX (a b:Nat)(la:sz a<=1000000000)(lb:sz b<=1000000000):Ca E0 91 [.d (LD (enc a)),.d (LD (enc b))] (.d (.v (.int .i64 (dL a b))),none):=by
 unfold sz at la lb;have uk:(LL (enc a)).length=(enc a).length:=by simp[LL]
 have Dq:(LL (enc b)).length=(enc b).length:=by simp[LL]
 by_cases hl:(enc a).length=(enc b).length
 ·obtain⟨r,hloop,hq⟩:=Ox (enc a) (enc b) (aQ a) (aQ b) hl la;rw[aT,aT]at hq;have hdec:ah .i64 (((enc a).length:Int)-1)=((enc a).length:Int)-1:=wrap_i64 (by omega);have hA:Ex E0 f91.body.l (st0 [.d (LD (enc a)),.d (LD (enc b)),.u,.u,.u,.u,.u] []) (.norm,(st0 [.d (LD (enc a)),.d (LD (enc b)),.u,.u,.u,.u,.u] [])):=by
   refine Ex.of (n:=40) ?_;simp -implicitDefEqProofs[f91]
  have hB:Ex E0 f91.body.r.l (st0 [.d (LD (enc a)),.d (LD (enc b)),.u,.u,.u,.u,.u] []) (.norm,(st0 [.d (LD (enc a)),.d (LD (enc b)),.u,.u,.d (.v (.bool false)),.u,.u] [])):=by
   refine Ex.of (n:=40) ?_;simp only[LD];generalize LL (enc a)=as',LL (enc b)=bs at*;simp -implicitDefEqProofs[f91,uk,Dq,hl]
  have hC:Ex E0 f91.body.r.r.l.l (st0 [.d (LD (enc a)),.d (LD (enc b)),.u,.u,.d (.v (.bool false)),.u,.u] []) (.norm,QO (enc a) (enc b) (((enc a).length:Int)-1) .u):=by
   refine Ex.of (n:=40) ?_;unfold QO;simp only[LD];generalize LL (enc a)=as',LL (enc b)=bs,(enc a).length=m at*;simp -implicitDefEqProofs[f91,uk,hdec]
  rcases hq with ⟨rfl,he⟩|⟨s,rfl,rfl⟩
  ·subst he;have e0:dL a a=0:=by simp[dL]
   rw[e0];refine Ca.body (o:=.ret) (st1:=Y9 0) rfl (k91:E0.fn _=_) rfl ?_ (by intro id h;cases h) (by unfold Y9;simp -implicitDefEqProofs[f91]);show Ex E0 (.seq f91.body.l (.seq f91.body.r.l (.seq (.seq f91.body.r.r.l.l (.block 0 (.loop Y8))) f91.body.r.r.r))) _ _;refine hA.seq (hB.seq ((hC.seq hloop.block).seq (Ex.of (n:=40) ?_)));unfold QO Y9;simp -implicitDefEqProofs[f91]
  ·refine Ca.body (o:=.ret) (st1:=Y9 (dL a b)) rfl (k91:E0.fn _=_) rfl ?_ (by intro id h;cases h) (by unfold Y9;simp -implicitDefEqProofs[f91]);show Ex E0 (.seq f91.body.l (.seq f91.body.r.l (.seq (.seq f91.body.r.r.l.l (.block 0 (.loop Y8))) f91.body.r.r.r))) _ _;exact hA.seq (hB.seq ((hC.seq hloop.cO).dI))
 ·have hw:ah .i64 (((enc a).length:Int)-((enc b).length:Int))=((enc a).length:Int)-((enc b).length:Int):=wrap_i64 (by omega);have hs:=Hu;have hc:(((enc a).length:Int)-((enc b).length:Int)).sign=dL a b:=by
   have ga:=xB a;have gb:=xB b;unfold dL;rcases Nat.lt_or_gt_of_ne hl with h|h
   ·have hb0:0<b:=by
     rcases Nat.eq_zero_or_pos b with e|e
     ·rw[e,dn]at h;simp at h
     ·exact e
    have h2:=Kr hb0;have h3:=Nat.pow_le_pow_right (n:=4294967296) (by omega) (show(enc a).length<=(enc b).length-1 by omega);rw[if_pos (by omega),Int.sign_eq_neg_one_of_neg (by omega)]
   ·have ha0:0<a:=by
     rcases Nat.eq_zero_or_pos a with e|e
     ·rw[e,dn]at h;simp at h
     ·exact e
    have h2:=Kr ha0;have h3:=Nat.pow_le_pow_right (n:=4294967296) (by omega) (show(enc b).length<=(enc a).length-1 by omega);rw[if_neg (by omega),if_neg (by omega),Int.sign_eq_one_of_pos (by omega)]
  have hne:(((enc a).length:Int) != ((enc b).length:Int))=true:=by simp;omega
  refine Ca.bO (n:=90) ?_;rw[ak rfl (k91:E0.fn _=_) rfl];rw[<-hc];simp only[LD];generalize LL (enc a)=as',LL (enc b)=bs,(enc a).length=m1,(enc b).length=m2 at*;simp -implicitDefEqProofs[f91,uk,Dq,hne,hw,hs]
def wpB:aH:=f90.body.r.r.r.l.r.bl.lp
def wpS (a b o:List Nat)(k s:Nat)(t:FV):St:=(st0 [.d (LD a),.d (LD b),.u,dP k,.d (.v (.int .u64 s)),.d (.v (.int .i64 k)),.u,t] (dQ k (LL o)))
theorem Oy (a b o:List Nat)(k s:Nat)(hc:¬ k<=max a.length b.length):EX E0 60 wpB (wpS a b o k s .u)=some (.exit 0,wpS a b o k s (.d (.v (.bool false)))):=by
 have uk:(LL a).length=a.length:=by simp[LL]
 have Dq:(LL b).length=b.length:=by simp[LL]
 have hmax:(if a.length<b.length then(b.length:Int) else(a.length:Int))=((max a.length b.length:Nat):Int):=by split<;>omega
 unfold wpS;simp only[LD];generalize dP k=ov,dQ k (LL o)=oh,LL a=as',LL b=bs,max a.length b.length=mm at*;simp -implicitDefEqProofs[wpB,f90,uk,Dq,hmax,hc]
theorem Hw (a b o:List Nat)(k s:Nat)(hk:k<=1000000000)(la:a.length<=1000000000)(lb:b.length<=1000000000)(ha:bT a)(hb:bT b)(ho:o.length=k)(hs:s<4294967296)(hc:k<=max a.length b.length) :
  EX E0 80 wpB (wpS a b o k s .u)=some (.norm,wpS a b (o++[(bE a k+bE b k+s) % 4294967296]) (k+1) ((bE a k+bE b k+s) / 4294967296) .u):=by
 have h1:=fun m=>vD m a la k hk ha
 have h2:=fun m=>vD m b lb k hk hb
 have xa:=cZ ha k;have xb:=cZ hb k;have uk:(LL a).length=a.length:=by simp[LL]
 have Dq:(LL b).length=b.length:=by simp[LL]
 have hmax:(if a.length<b.length then(b.length:Int) else(a.length:Int))=((max a.length b.length:Nat):Int):=by split<;>omega
 simp only[LD]at h1 h2;have bD:ah .i64 ((k:Int)+1)=(k:Int)+1:=wrap_i64 (by omega);generalize bE a k=x,bE b k=y at*;have w1:ah .u64 ((x:Int)+(y:Int))=(x:Int)+(y:Int):=wrap_u64 (by omega);have w2:ah .u64 ((x:Int)+(y:Int)+(s:Int))=(x:Int)+(y:Int)+(s:Int):=wrap_u64 (by omega);have w3:ah .u32 ((x:Int)+(y:Int)+(s:Int))=((x:Int)+(y:Int)+(s:Int)) % 4294967296:=dD _;have w4:Int.fdiv ((x:Int)+(y:Int)+(s:Int)) 4294967296=((x:Int)+(y:Int)+(s:Int)) / 4294967296:=Int.fdiv_eq_ediv_of_nonneg _ (by omega);have QN:LL (o++[(x+y+s) % 4294967296])=LL o++[.v (.int .u32 (((x:Int)+(y:Int)+(s:Int)) % 4294967296))]:=by simp[LL]
 have hol:(LL o).length=k:=by simp[LL,ho]
 have hv1:dP (k+1)=.ls (.loc 0) k 1 0 (k+1):=by simp[dP]
 have Dv:∀ l,dQ (k+1) l=[.row k 1 l]:=by intro l;simp[dQ]
 have hm1:(k+1)*4<=most:=by simp[most];omega
 have hm2:k+1<=most:=by simp[most];omega
 have htk:(LL o).take k=LL o:=List.take_of_length_le (by omega);have hk1:((k+1:Nat):Int)=(k:Int)+1:=by omega
 have hs1:(((x+y+s) / 4294967296:Nat):Int)=((x:Int)+(y:Int)+(s:Int)) / 4294967296:=by omega
 unfold wpS;rw[QN,hv1,Dv,hk1,hs1]
 by_cases hk0:k=0
 ·have hv:dP k=.d (.n 1):=by simp[dP,hk0]
  have hh:∀ l,dQ k l=[]:=by intro l;simp[dQ,hk0]
  have ho0:o=[]:=List.eq_nil_of_length_eq_zero (by omega);have hLo:LL o=[]:=by rw[ho0];rfl
  have hm3:1*4<=most:=by simp[most]
  have hm4:1<=most:=by simp[most]
  have hvk:FV.ls (.loc 0) 0 1 0 1=FV.ls (.loc 0) k 1 0 (k+1):=by rw[hk0]
  have hhk:∀ l,ae.row 0 1 l=ae.row k 1 l:=by intro l;rw[hk0]
  rw[hv,hh,hLo,<-hvk,<-hhk];simp only[LD];generalize LL a=as',LL b=bs,max a.length b.length=mm at*;simp -implicitDefEqProofs[IntKind.bits,wpB,f90,uk,Dq,hmax,hc,h1,h2,bD,w1,w2,w3,w4,hm4,most]
 ·have hv:dP k=.ls (.loc 0) (k-1) 1 0 k:=by simp[dP,hk0]
  have hh:∀ l,dQ k l=[.row (k-1) 1 l]:=by intro l;simp[dQ,hk0]
  have hk2:k-1+1=k:=by omega
  rw[hv,hh];simp only[LD];generalize LL a=as',LL b=bs,max a.length b.length=mm at*;simp -implicitDefEqProofs[IntKind.bits,wpB,f90,uk,Dq,hmax,hc,h1,h2,bD,w1,w2,w3,w4,hm1,hm2,hol,htk,hk2]
theorem Kw (a b:List Nat)(la:a.length<=100000000)(lb:b.length<=100000000)(ha:bT a)(hb:bT b) :
  ∃ r,Ex E0 (.loop wpB) (wpS a b [] 0 0 .u) r/\∃ o s,bT o/\val o=val a+val b/\o.length=max a.length b.length+1/\r=(.exit 0,wpS a b o o.length s (.d (.v (.bool false)))):=by
 refine Ex.inv (S:=fun t:List Nat × Nat × Nat=>wpS a b t.1 t.2.1 t.2.2 .u) (fun t=>max a.length b.length+2-t.2.1) (plI a b) _ ?_ ([],0,0) ?_
 ·rintro⟨o,k,s⟩ ⟨h1,h2,h3,h4,h5,h6⟩;simp only at h1 h2 h3 h4 h5 h6;have xa:=cZ ha k;have xb:=cZ hb k
  by_cases hc:k<=max a.length b.length
  ·have hr:=Hw a b o k s (by omega) (by omega) (by omega) ha hb h1 h4 hc;refine .inl ⟨(o++[(bE a k+bE b k+s) % 4294967296],k+1,(bE a k+bE b k+s) / 4294967296),Ex.of hr,by simp only;omega,?_,?_,?_,?_,?_,?_⟩
   ·simp[h1]
   ·simp only;omega
   ·intro he;simp only at he ⊢;have e1:bE a k=0:=by unfold bE;rw[List.getElem?_eq_none (by omega)];rfl
    have e2:bE b k=0:=by unfold bE;rw[List.getElem?_eq_none (by omega)];rfl
    rw[e1,e2];omega
   ·simp only;omega
   ·exact gZ h5 (fun x hx=>by simp at hx;subst hx;exact Nat.mod_lt _ (by omega))
   ·simp only;rw[val_append,h1,Nat.pow_succ,<-h6,iQ a k,iQ b k];have hv:val [(bE a k+bE b k+s) % 4294967296]=(bE a k+bE b k+s) % 4294967296:=by simp[val]
    rw[hv];exact D6 (by omega)
  ·have hr:=Oy a b o k s hc;refine .inr ⟨_,Ex.of hr,(by simp),o,s,h5,?_,by omega,by rw[h1]⟩;rw[g_ (by omega),g_ (by omega)]at h6;have:s=0:=h3 (by omega);subst this;simpa using h6
 ·refine⟨rfl,by simp,?_,by simp,?_,?_⟩
  ·simp
  ·intro x hx;cases hx
  ·simp[val]
theorem AP (a b:List Nat)(la:a.length<=100000000)(lb:b.length<=100000000)(ha:bT a)(hb:bT b) :
  Ca E0 90 [.d (LD a),.d (LD b)] (.d (LD (enc (val a+val b))),none):=by
 obtain⟨r,hl,o,s,ho,hv,hol,rfl⟩:=Kw a b la lb ha hb;obtain⟨n0,hc⟩:=(vC o (by omega)).get;rw[cB ho,hv]at hc;have hlo:(LL o).length=o.length:=by simp[LL]
 have htk:(LL o).take o.length=LL o:=List.take_of_length_le (by omega);have hv1:dP o.length=.ls (.loc 0) (o.length-1) 1 0 o.length:=by unfold dP;rw[if_neg (by omega)]
 have Dv:∀ l,dQ o.length l=[.row (o.length-1) 1 l]:=by intro l;unfold dQ;rw[if_neg (by omega)]
 generalize enc (val a+val b)=res at*;refine Ca.body (o:=.ret) (st1:=(st0 [.u,.u,.d (LD res),.u,.u,.u,.u,.u] [.gG (o.length-1) 1 (LL o)])) rfl (k90:E0.fn _=_) rfl ?_ (by intro id h;cases h) ?_
 ·show Ex E0 (.seq f90.body.l (.seq f90.body.r.l (.seq f90.body.r.r.l (.seq (.seq f90.body.r.r.r.l.l (.block 0 (.loop wpB))) f90.body.r.r.r.r)))) _ _;refine Ex.seq (st1:=(st0 [.d (LD a),.d (LD b),.u,.u,.u,.u,.u,.u] [])) (Ex.of (n:=40) ?_)
   (Ex.seq (st1:=(st0 [.d (LD a),.d (LD b),.u,.d (.n 1),.u,.u,.u,.u] [])) (Ex.of (n:=40) ?_)
   (Ex.seq (st1:=(st0 [.d (LD a),.d (LD b),.u,.d (.n 1),.d (.v (.int .u64 0)),.u,.u,.u] [])) (Ex.of (n:=40) ?_)
   (Ex.seq (Ex.seq (st1:=wpS a b [] 0 0 .u) (Ex.of (n:=40) ?_) hl.block) (Ex.of (n:=n0+40) ?_))))
  ·simp -implicitDefEqProofs[f90]
  ·simp -implicitDefEqProofs[f90]
  ·simp -implicitDefEqProofs[f90]
  ·simp -implicitDefEqProofs[wpS,dP,dQ,f90]
  ·unfold wpS;clear hl;simp only[LD]at hc ⊢;rw[hv1,Dv];generalize o.length-1=m,LL o=es at*;generalize o.length=l at*;simp -implicitDefEqProofs[ae.view,f90,hlo,htk,hc]
 ·simp -implicitDefEqProofs[f90,LD]
def wmB:aH:=f92.body.r.r.r.l.r.bl.lp
def QP (a b o:List Nat)(k s:Nat)(t:FV):St:=(st0 [.d (LD a),.d (LD b),.u,dP k,.d (.v (.int .u64 s)),.d (.v (.int .i64 k)),.u,t] (dQ k (LL o)))
theorem Ky (a b o:List Nat)(k s:Nat)(hc:¬ k<a.length):EX E0 60 wmB (QP a b o k s .u)=some (.exit 0,QP a b o k s (.d (.v (.bool false)))):=by
 have uk:(LL a).length=a.length:=by simp[LL]
 unfold QP;simp only[LD];generalize dP k=ov,dQ k (LL o)=oh,LL a=as',LL b=bs at*;simp -implicitDefEqProofs[wmB,f92,uk,hc]
theorem FE (a b o:List Nat)(k s s' d:Nat)(hk:k<a.length)(la:a.length<=1000000000)(lb:b.length<=1000000000)(ha:bT a)(hb:bT b)(ho:o.length=k)(hs:s<=1)
  (hd:d<4294967296) (hs':s'<=1) (hdig:bE a k+4294967296*s'=d+bE b k+s) :
  EX E0 80 wmB (QP a b o k s .u)=some (.norm,QP a b (o++[d]) (k+1) s' .u):=by
 have h1:=fun m=>vD m a la k (by omega) ha
 have h2:=fun m=>vD m b lb k (by omega) hb
 have xa:=cZ ha k;have xb:=cZ hb k;have uk:(LL a).length=a.length:=by simp[LL]
 simp only[LD]at h1 h2;have bD:ah .i64 ((k:Int)+1)=(k:Int)+1:=wrap_i64 (by omega);generalize bE a k=x,bE b k=y at*;have w1:ah .u64 ((x:Int)+4294967296)=(x:Int)+4294967296:=wrap_u64 (by omega);have w2:ah .u64 ((x:Int)+4294967296-(y:Int))=(x:Int)+4294967296-(y:Int):=wrap_u64 (by omega);obtain⟨Z,hZ⟩:∃ Z:Nat,(Z:Int)=(x:Int)+4294967296-(y:Int)-(s:Int):=⟨x+4294967296-y-s,by omega⟩
 have w3:ah .u64 ((x:Int)+4294967296-(y:Int)-(s:Int))=(Z:Int):=by rw[wrap_u64 (by omega)];omega
 have w4:ah .u32 (Z:Int)=(d:Int):=by rw[dD];omega
 have w5:Int.fdiv (Z:Int) 4294967296=1-(s':Int):=by rw[Int.fdiv_eq_ediv_of_nonneg _ (by omega)];omega
 have w6:ah .u64 (1-(1-(s':Int)))=(s':Int):=by rw[wrap_u64 (by omega)];omega
 clear hZ;have QN:LL (o++[d])=LL o++[.v (.int .u32 (d:Int))]:=by simp[LL]
 have hol:(LL o).length=k:=by simp[LL,ho]
 have hv1:dP (k+1)=.ls (.loc 0) k 1 0 (k+1):=by simp[dP]
 have Dv:∀ l,dQ (k+1) l=[.row k 1 l]:=by intro l;simp[dQ]
 have hm1:(k+1)*4<=most:=by simp[most];omega
 have hm2:k+1<=most:=by simp[most];omega
 have htk:(LL o).take k=LL o:=List.take_of_length_le (by omega);have hk1:((k+1:Nat):Int)=(k:Int)+1:=by omega
 unfold QP;rw[QN,hv1,Dv,hk1]
 by_cases hk0:k=0
 ·have hv:dP k=.d (.n 1):=by simp[dP,hk0]
  have hh:∀ l,dQ k l=[]:=by intro l;simp[dQ,hk0]
  have ho0:o=[]:=List.eq_nil_of_length_eq_zero (by omega);have hLo:LL o=[]:=by rw[ho0];rfl
  have hm3:1*4<=most:=by simp[most]
  have hm4:1<=most:=by simp[most]
  have hvk:FV.ls (.loc 0) 0 1 0 1=FV.ls (.loc 0) k 1 0 (k+1):=by rw[hk0]
  have hhk:∀ l,ae.row 0 1 l=ae.row k 1 l:=by intro l;rw[hk0]
  rw[hv,hh,hLo,<-hvk,<-hhk];simp only[LD];generalize LL a=as',LL b=bs,a.length=mm at*;simp -implicitDefEqProofs[IntKind.bits,wmB,f92,uk,hk,h1,h2,bD,w1,w2,w3,w4,w5,w6,hm4,most]
 ·have hv:dP k=.ls (.loc 0) (k-1) 1 0 k:=by simp[dP,hk0]
  have hh:∀ l,dQ k l=[.row (k-1) 1 l]:=by intro l;simp[dQ,hk0]
  have hk2:k-1+1=k:=by omega
  rw[hv,hh];simp only[LD];generalize LL a=as',LL b=bs,a.length=mm at*;simp -implicitDefEqProofs[IntKind.bits,wmB,f92,uk,hk,h1,h2,bD,w1,w2,w3,w4,w5,w6,hm1,hm2,hol,htk,hk2]
theorem Hy (a b:List Nat)(la:a.length<=100000000)(lb:b.length<=a.length)(ha:bT a)(hb:bT b)(hab:val b<=val a) :
  ∃ r,Ex E0 (.loop wmB) (QP a b [] 0 0 .u) r/\∃ o,bT o/\val o=val a-val b/\o.length=a.length/\r=(.exit 0,QP a b o a.length 0 (.d (.v (.bool false)))):=by
 refine Ex.inv (S:=fun t:List Nat × Nat=>QP a b t.1 t.1.length t.2 .u) (fun t=>a.length-t.1.length) (miI a b) _ ?_ ([],0) ?_
 ·rintro⟨o,s⟩ ⟨h1,h2,h3,h4⟩;simp only at h1 h2 h3 h4;have xa:=cZ ha o.length;have xb:=cZ hb o.length
  by_cases hk:o.length<a.length
  ·obtain⟨d,s',hd,hs',hdig⟩:∃ d s',d<4294967296/\s'<=1/\bE a o.length+4294967296*s'=d+bE b o.length+s:=by
    by_cases hc:bE b o.length+s<=bE a o.length
    ·exact⟨bE a o.length-(bE b o.length+s),0,by omega,by omega,by omega⟩
    ·exact⟨bE a o.length+4294967296-(bE b o.length+s),1,by omega,by omega,by omega⟩
   have hr:=FE a b o o.length s s' d hk (by omega) (by omega) ha hb rfl h2 hd hs' hdig;refine .inl ⟨(o++[d],s'),?_,?_,?_,?_,?_,?_⟩
   ·simp only[List.length_append,List.length_cons,List.length_nil];exact Ex.of hr
   ·simp only[List.length_append,List.length_cons,List.length_nil];omega
   ·simp only[List.length_append,List.length_cons,List.length_nil];omega
   ·exact hs'
   ·exact gZ h3 (fun x hx=>by simp at hx;subst hx;exact hd)
   ·simp only[List.length_append,List.length_cons,List.length_nil,Nat.zero_add];rw[dX,dX,val_append,Nat.pow_succ];have hv:val [d]=d:=by simp[val]
    rw[hv];exact Ai h4 hdig
  ·have he:o.length=a.length:=by omega
   rw[he,fo (Nat.le_refl _),fo lb]at h4;have hlt:=nC h3;rw[he]at hlt;have hs0:s=0:=by
    rcases Nat.lt_or_ge s 1 with h|h
    ·omega
    ·have:s=1:=by omega
     subst this;generalize 4294967296 ^ a.length=p at*;omega
   subst hs0;refine .inr ⟨_,?_,?_,o,h3,by omega,he,rfl⟩
   ·simp only[he];exact Ex.of (Ky a b o a.length 0 (by omega))
   ·simp
 ·refine⟨by simp,by simp,?_,?_⟩
  ·intro x hx;cases hx
  ·simp[val,bW]
theorem Ea (a b:List Nat)(la:a.length<=100000000)(lb:b.length<=a.length)(ha:bT a)(hb:bT b)(hab:val b<=val a) :
  Ca E0 92 [.d (LD a),.d (LD b)] (.d (LD (enc (val a-val b))),none):=by
 obtain⟨r,hl,o,ho,hv,hol,rfl⟩:=Hy a b la lb ha hb hab;obtain⟨n0,hc⟩:=(vC o (by omega)).get;rw[cB ho,hv]at hc;have hlo:(LL o).length=a.length:=by simp[LL,hol]
 have htk:(LL o).take a.length=LL o:=List.take_of_length_le (by omega);generalize enc (val a-val b)=res at*;refine Ca.body (o:=.ret) (st1:=(st0 [.u,.u,.d (LD res),.u,.u,.u,.u,.u] (if a.length=0 then [] else [.gG (a.length-1) 1 (LL o)]))) rfl (k92:E0.fn _=_) rfl ?_ (by intro id h;cases h) ?_
 ·show Ex E0 (.seq f92.body.l (.seq f92.body.r.l (.seq f92.body.r.r.l (.seq (.seq f92.body.r.r.r.l.l (.block 0 (.loop wmB))) f92.body.r.r.r.r)))) _ _;refine Ex.seq (st1:=(st0 [.d (LD a),.d (LD b),.u,.u,.u,.u,.u,.u] [])) (Ex.of (n:=40) ?_)
   (Ex.seq (st1:=(st0 [.d (LD a),.d (LD b),.u,.d (.n 1),.u,.u,.u,.u] [])) (Ex.of (n:=40) ?_)
   (Ex.seq (st1:=(st0 [.d (LD a),.d (LD b),.u,.d (.n 1),.d (.v (.int .u64 0)),.u,.u,.u] [])) (Ex.of (n:=40) ?_)
   (Ex.seq (Ex.seq (st1:=QP a b [] 0 0 .u) (Ex.of (n:=40) ?_) hl.block) (Ex.of (n:=n0+40) ?_))))
  ·simp -implicitDefEqProofs[f92]
  ·simp -implicitDefEqProofs[f92]
  ·simp -implicitDefEqProofs[f92]
  ·simp -implicitDefEqProofs[QP,dP,dQ,f92]
  ·unfold QP;clear hl
   by_cases h0:a.length=0
   ·have hLo:LL o=[]:=List.eq_nil_of_length_eq_zero (by omega);have ho0:o=[]:=List.eq_nil_of_length_eq_zero (by omega);have hv1:dP a.length=.d (.n 1):=by unfold dP;rw[if_pos h0]
    have Dv:∀ l,dQ a.length l=[]:=by intro l;unfold dQ;rw[if_pos h0]
    rw[if_pos h0,hv1,Dv];rw[ho0]at hc;simp only[LD,LL,List.map_nil]at hc ⊢;generalize List.map (fun(x:Nat)=>D.v (Value.int IntKind.u32 (x:Int))) res=rs at*;simp -implicitDefEqProofs[f92,hc]
   ·have hv1:dP a.length=.ls (.loc 0) (a.length-1) 1 0 a.length:=by unfold dP;rw[if_neg h0]
    have Dv:∀ l,dQ a.length l=[.row (a.length-1) 1 l]:=by intro l;unfold dQ;rw[if_neg h0]
    rw[if_neg h0,hv1,Dv];simp only[LD]at hc ⊢;generalize a.length-1=m,LL o=es at*;generalize a.length=l at*;simp -implicitDefEqProofs[ae.view,f92,hlo,htk,hc]
 ·simp -implicitDefEqProofs[f92,LD]
def Hz:aH:=f87.body.r.r.l.r.bl.lp
def wjB:aH:=Hz.r.l.bl.r.l.r.bl.lp
def RO (a b:List Nat)(es:List D)(n i c k:Nat)(t:FV):St:=(st0 [.d (LD a),.d (LD b),.u,.ls (.loc 0) 0 1 0 n,.d (.v (.int .i64 i)),.d (.v (.int .u64 c)),.d (.v (.int .i64 k)),.u,.u,t] [.row 0 1 es])
theorem aar (a b:List Nat)(es:List D)(n i c:Nat):EX E0 60 wjB (RO a b es n i c b.length .u)=some (.exit 2,RO a b es n i c b.length (.d (.v (.bool false)))):=by
 have Dq:(LL b).length=b.length:=by simp[LL]
 unfold RO;simp only[LD];generalize LL a=as',LL b=bs,b.length=lb at*;simp -implicitDefEqProofs[wjB,Hz,f87,Dq]
theorem RP (a b:List Nat)(es:List D)(n i c k x y p:Nat)(hx:a[i]?=some x)(hy:b[k]?=some y)(hp:es[i+k]?=some (.v (.int .u32 (p:Int))))(hn:es.length=n)
  (hxl:x<4294967296) (hyl:y<4294967296) (hpl:p<4294967296) (hcl:c<4294967296) (hi:i<=1000000000) (hk:k<=1000000000) :
  EX E0 90 wjB (RO a b es n i c k .u)=some (.norm,RO a b (es.set (i+k) (.v (.int .u32 (((x*y+p+c) % 4294967296:Nat):Int)))) n i ((x*y+p+c) / 4294967296) (k+1) .u):=by
 have hxa:(LL a)[i]?=some (.v (.int .u32 (x:Int))):=by simp[LL,hx]
 have hyb:(LL b)[k]?=some (.v (.int .u32 (y:Int))):=by simp[LL,hy]
 have ha:i<(LL a).length:=by simpa[LL] using(bH hx)
 have hb:k<(LL b).length:=by simpa[LL] using(bH hy)
 have hpn:i+k<n:=by rw[<-hn];exact(bH hp)
 have bD:ah .i64 ((k:Int)+1)=(k:Int)+1:=wrap_i64 (by omega);have hk1:((k+1:Nat):Int)=(k:Int)+1:=by omega
 have hik:ah .i64 ((i:Int)+(k:Int))=((i+k:Nat):Int):=by rw[wrap_i64 (by omega)];omega
 have w1:ah .u64 (x:Int)=(x:Int):=wrap_u64 (by omega);have w2:ah .u64 (y:Int)=(y:Int):=wrap_u64 (by omega);have w3:ah .u64 (p:Int)=(p:Int):=wrap_u64 (by omega);have hm:x*y<=4294967295*4294967295:=Nat.mul_le_mul (by omega) (by omega);have hxy:(x:Int)*(y:Int)=((x*y:Nat):Int):=by simp
 obtain⟨M,hM⟩:∃ M,M=x*y:=⟨_,rfl⟩
 rw[<-hM]at hxy hm ⊢;have w4:ah .u64 ((x:Int)*(y:Int))=(M:Int):=by rw[hxy];exact wrap_u64 (by omega)
 have w5:ah .u64 ((M:Int)+(p:Int))=((M+p:Nat):Int):=by rw[wrap_u64 (by omega)];omega
 have w6:ah .u64 (((M+p:Nat):Int)+(c:Int))=((M+p+c:Nat):Int):=by rw[wrap_u64 (by omega)];omega
 obtain⟨T,hT⟩:∃ T,T=M+p+c:=⟨_,rfl⟩
 rw[<-hT]at w6 ⊢;have w7:ah .u32 (T:Int)=((T % 4294967296:Nat):Int):=by rw[dD];omega
 have w8:Int.fdiv (T:Int) 4294967296=((T / 4294967296:Nat):Int):=by rw[Int.fdiv_eq_ediv_of_nonneg _ (by omega)];omega
 clear hT hM hxy hm;unfold RO;rw[hk1];generalize T % 4294967296=d,T / 4294967296=c' at*;simp only[LD];generalize LL a=as',LL b=bs,i+k=j,M+p=Mp at*;have i1:=idx hxa;have i2:=idx hyb;have i3:=idx hp;have hlt:j<es.length:=by omega
 simp -implicitDefEqProofs[IntKind.bits,wjB,Hz,f87,ha,hb,hxa,hyb,hp,i1,i2,i3,hpn,hn,bD,hik,w1,w2,w3,w4,w5,w6,w7,w8]
theorem Oz (P:List Nat)(m j d:Nat)(hj:j<P.length):(LL (row0 P m)).set j (.v (.int .u32 (d:Int)))=LL (row0 (P.set j d) m):=by
 simp only[LL,row0,List.map_append];rw[List.set_append_left _ _ (by simpa using hj),List.map_set]
theorem RQ (P:List Nat)(m j:Nat)(hj:j<P.length):(LL (row0 P m))[j]?=some (.v (.int .u32 ((bE P j:Nat):Int))):=by
 simp only[LL,row0,List.map_append];rw[List.getElem?_append_left (by simpa using hj)];simp[bE,List.getElem?_eq_getElem hj]
theorem WL {vP vP' Pj p d c c' x y V vb B:Nat}(h1:vP'+Pj*p=vP+Pj*d)(h2:x*y+p+c=d+B*c')(h3:vP+Pj*c=V):vP'+Pj*B*c'=V+Pj*(x*y):=by
 have:Pj*(x*y)+Pj*p+Pj*c=Pj*d+Pj*B*c':=by rw[Nat.mul_assoc,<-Nat.mul_add,<-Nat.mul_add,h2,Nat.mul_add]
 omega
theorem WM (a b P:List Nat)(m i x:Nat)(hx:a[i]?=some x)(la:a.length<=100000000)(lb:b.length<=100000000)(ha:bT a)(hb:bT b)(hP:bT P)(hl:P.length=i+b.length)(hv:val P=bW a i*val b) :
  ∃ r,Ex E0 (.loop wjB) (RO a b (LL (row0 P m)) (i+b.length+m) i 0 0 .u) r /\
   ∃ Q c,bT Q/\Q.length=i+b.length/\c<4294967296/\val Q+4294967296 ^ (i+b.length)*c=bW a (i+1)*val b/\r=(.exit 2,RO a b (LL (row0 Q m)) (i+b.length+m) i c b.length (.d (.v (.bool false)))):=by
 have hil:i<a.length:=(bH hx)
 have hxl:x<4294967296:=ha _ (List.mem_of_getElem? hx);have hxe:bE a i=x:=by simp[bE,hx]
 refine Ex.inv (S:=fun t:List Nat × Nat × Nat=>RO a b (LL (row0 t.1 m)) (i+b.length+m) i t.2.1 t.2.2 .u) (fun t=>b.length-t.2.2)
  (fun t=>bT t.1/\t.1.length=i+b.length/\t.2.1<4294967296/\t.2.2<=b.length/\val t.1+4294967296 ^ (i+t.2.2)*t.2.1=val P+4294967296 ^ i*(x*bW b t.2.2)) _ ?_ (P,0,0) ?_
 ·rintro⟨Q,c,k⟩ ⟨h1,h2,h3,h4,h5⟩;simp only at h1 h2 h3 h4 h5
  by_cases hk:k<b.length
  ·have hy:b[k]?=some (b[k]'hk):=List.getElem?_eq_getElem hk;have hye:bE b k=b[k]'hk:=by simp[bE,hy]
   have hyl:=hb _ (List.getElem_mem hk);generalize b[k]'hk=y at*;have hpl:bE Q (i+k)<4294967296:=cZ h1 _;have hr:=RP a b (LL (row0 Q m)) (i+b.length+m) i c k x y (bE Q (i+k)) hx hy (RQ Q m _ (by omega)) (by rw[qB];omega) hxl hyl hpl h3 (by omega) (by omega);rw[Oz _ _ _ _ (by omega)]at hr;have hm:x*y<=4294967295*4294967295:=Nat.mul_le_mul (by omega) (by omega);refine .inl ⟨(Q.set (i+k) ((x*y+bE Q (i+k)+c) % 4294967296),(x*y+bE Q (i+k)+c) / 4294967296,k+1),Ex.of hr,by simp only;omega,Fp h1 (Nat.mod_lt _ (by omega)),by simp[h2],by simp only;omega,by simp only;omega,?_⟩;simp only;have hs:=zK Q (i+k) ((x*y+bE Q (i+k)+c) % 4294967296) (by omega);have:=WL (vb:=0) hs (show x*y+bE Q (i+k)+c=(x*y+bE Q (i+k)+c) % 4294967296+4294967296*((x*y+bE Q (i+k)+c) / 4294967296) by omega) h5;rw[<-Nat.add_assoc,Nat.pow_succ,this,dX,hye,Nat.mul_add,Nat.mul_add,<-Nat.add_assoc]
   congr 1
   rw[Nat.pow_add];generalize 4294967296 ^ i=A;generalize 4294967296 ^ k=C;grind
  ·have hke:k=b.length:=by omega
   subst hke;rw[fo (Nat.le_refl _)]at h5;refine .inr ⟨_,Ex.of (aar a b (LL (row0 Q m)) (i+b.length+m) i c),by simp,Q,c,h1,h2,h3,?_,rfl⟩;rw[h5,hv,dX,hxe,Nat.add_mul]
   congr 1
   rw[Nat.mul_assoc]
 ·refine⟨hP,hl,by simp,by simp,?_⟩;simp[bW,val]
def JY (a b:List Nat)(es:List D)(n i:Nat)(t:FV):St:=(st0 [.d (LD a),.d (LD b),.u,.ls (.loc 0) 0 1 0 n,.d (.v (.int .i64 i)),.u,.u,.u,t,.u] [.row 0 1 es])
theorem aas (a b:List Nat)(es:List D)(n:Nat):EX E0 60 Hz (JY a b es n a.length .u)=some (.exit 0,JY a b es n a.length (.d (.v (.bool false)))):=by
 have uk:(LL a).length=a.length:=by simp[LL]
 unfold JY;simp only[LD];generalize LL a=as',LL b=bs,a.length=la at*;simp -implicitDefEqProofs[Hz,f87,uk]
theorem WN (a b:List Nat)(la:a.length<=100000000)(lb:b.length<=100000000)(ha:bT a)(hb:bT b) :
  ∃ r,Ex E0 (.loop Hz) (JY a b (LL (row0 [] (a.length+b.length))) (a.length+b.length) 0 .u) r /\
   ∃ O,bT O/\O.length=a.length+b.length/\val O=val a*val b/\r=(.exit 0,JY a b (LL O) (a.length+b.length) a.length (.d (.v (.bool false)))):=by
 have e:LL (row0 [] (a.length+b.length))=LL (row0 (List.replicate b.length 0) (a.length-0)):=by
  simp only[row0,List.nil_append,Nat.sub_zero];rw[List.replicate_append_replicate,Nat.add_comm]
 rw[e];refine Ex.inv (S:=fun t:List Nat × Nat=>JY a b (LL (row0 t.1 (a.length-t.2))) (a.length+b.length) t.2 .u) (fun t=>a.length-t.2)
  (fun t=>t.2<=a.length/\t.1.length=t.2+b.length/\bT t.1/\val t.1=bW a t.2*val b) _ ?_ (List.replicate b.length 0,0) ?_
 ·rintro⟨P,i⟩ ⟨h1,h2,h3,h4⟩;simp only at h1 h2 h3 h4
  by_cases hi:i<a.length
  ·obtain⟨m,hm⟩:∃ m,a.length-i=m+1:=⟨a.length-i-1,by omega⟩
   have hx:a[i]?=some (a[i]'hi):=List.getElem?_eq_getElem hi;obtain⟨r,hr,Q,c,g1,g2,g3,g4,rfl⟩:=WM a b P (m+1) i _ hx la lb ha hb h3 h2 h4;rw[show i+b.length+(m+1)=a.length+b.length by omega]at hr;refine .inl ⟨(Q++[c],i+1),?_,by simp only;omega,by simp only;omega,by simp[g2];omega,gZ g1 (fun y hy=>by simp at hy;subst hy;exact g3),?_⟩
   ·simp only[hm,show a.length-(i+1)=m by omega];have uk:(LL a).length=a.length:=by simp[LL]
    have Dq:(LL b).length=b.length:=by simp[LL]
    have bD:ah .i64 ((i:Int)+1)=(i:Int)+1:=wrap_i64 (by omega);have hk1:((i+1:Nat):Int)=(i:Int)+1:=by omega
    have hib:ah .i64 ((i:Int)+(b.length:Int))=((i+b.length:Nat):Int):=by rw[wrap_i64 (by omega)];omega
    have w1:ah .u32 (c:Int)=(c:Int):=wrap_u32 (by omega);have hz:=MN Q m;have hset:=GZ Q m c;rw[g2]at hz hset;have hle:(LL (row0 Q (m+1))).length=a.length+b.length:=by rw[qB];omega
    have hlt:i+b.length<a.length+b.length:=by omega
    rw[<-hset];clear hset;show Ex E0 (.seq Hz.l (.seq (.block 1 (.seq Hz.r.l.bl.l (.seq (.seq Hz.r.l.bl.r.l.l (.block 2 (.loop wjB))) Hz.r.l.bl.r.r))) Hz.r.r)) _ _;refine Ex.seq (st1:=JY a b (LL (row0 P (m+1))) (a.length+b.length) i (.d (.v (.bool true)))) (Ex.of (n:=40) ?_)
     (Ex.seq (st1:=JY a b ((LL (row0 Q (m+1))).set (i+b.length) (.v (.int .u32 (c:Int)))) (a.length+b.length) i .u)
      (Ex.h_ (Ex.seq (st1:={JY a b (LL (row0 P (m+1))) (a.length+b.length) i .u with vars:=[.d (LD a),.d (LD b),.u,.ls (.loc 0) 0 1 0 (a.length+b.length),.d (.v (.int .i64 i)),.d (.v (.int .u64 0)),.u,.u,.u,.u]}) (Ex.of (n:=40) ?_)
       (Ex.seq (Ex.seq (Ex.of (n:=40) ?_) hr.block) (Ex.of (n:=40) ?_)))) (Ex.of (n:=40) ?_))
    ·unfold JY;simp only[LD];generalize LL a=as' at*;generalize LL b=bs at*;generalize LL (row0 P (m+1))=es at*;simp -implicitDefEqProofs[Hz,f87,uk,hi]
    ·unfold JY;simp only[LD];generalize LL a=as' at*;generalize LL b=bs at*;generalize LL (row0 P (m+1))=es at*;simp -implicitDefEqProofs[Hz,f87]
    ·unfold JY RO;simp only[LD];generalize LL a=as' at*;generalize LL b=bs at*;generalize LL (row0 P (m+1))=es at*;simp -implicitDefEqProofs[Hz,f87]
    ·unfold JY RO;simp only[LD];generalize LL a=as' at*;generalize LL b=bs at*;generalize LL (row0 Q (m+1))=es at*;have hz2:=idx hz;generalize i+b.length=j at*;generalize b.length=lb' at*;generalize a.length+lb'=n at*;simp -implicitDefEqProofs[Hz,f87,Dq,hib,hz,hz2,hle,hlt,w1]
    ·unfold JY;simp only[LD];rw[hk1];generalize LL a=as' at*;generalize LL b=bs at*;generalize List.set _ _ _=es at*;simp -implicitDefEqProofs[Hz,f87,bD]
   ·simp only;rw[val_append,g2,<-g4];simp[val]
  ·have hi2:i=a.length:=by omega
   subst hi2;rw[fo (Nat.le_refl _)]at h4;refine .inr ⟨_,?_,?_,P,h3,h2,h4,rfl⟩
   ·simp only[Nat.sub_self,D7];exact Ex.of (aas a b (LL P) (a.length+b.length))
   ·simp
 ·refine⟨by simp,by simp,?_,?_⟩
  ·intro x hx;have:=List.eq_of_mem_replicate hx;omega
  ·have:∀ m,val (List.replicate m 0)=0:=by
    intro m
    induction m with
    | zero=>rfl
    | succ m ih=>rw[List.replicate_succ,val,ih]
   simp[bW,val,this]
theorem OA (a b:List Nat)(la:a.length<=100000000)(lb:b.length<=100000000)(ha:bT a)(hb:bT b) :
  Ca E0 87 [.d (LD a),.d (LD b)] (.d (LD (enc (val a*val b))),none):=by
 obtain⟨r,hl,o,ho,hol,hv,rfl⟩:=WN a b la lb ha hb;obtain⟨n0,hc⟩:=(vC o (by omega)).get;rw[cB ho,hv]at hc;have hlo:(LL o).length=a.length+b.length:=by simp[LL,hol]
 have uk:(LL a).length=a.length:=by simp[LL]
 have Dq:(LL b).length=b.length:=by simp[LL]
 have htk:(LL o).take (a.length+b.length)=LL o:=List.take_of_length_le (by omega);have hz:=ve (a.length+b.length);generalize enc (val a*val b)=res at*;refine Ca.body (o:=.ret) (st1:=(st0 [.u,.u,.d (LD res),.u,.u,.u,.u,.u,.u,.u] [.gG 0 1 (LL o)])) rfl (k87:E0.fn _=_) rfl ?_ (by intro id h;cases h) ?_
 ·show Ex E0 (.seq f87.body.l (.seq f87.body.r.l (.seq (.seq f87.body.r.r.l.l (.block 0 (.loop Hz))) f87.body.r.r.r))) _ _;refine Ex.seq (st1:=(st0 [.d (LD a),.d (LD b),.u,.u,.u,.u,.u,.u,.u,.u] [])) (Ex.of (n:=40) ?_)
   (Ex.seq (st1:=(st0 [.d (LD a),.d (LD b),.u,.ls (.loc 0) 0 1 0 (a.length+b.length),.u,.u,.u,.u,.u,.u] [.row 0 1 (LL (row0 [] (a.length+b.length)))])) (Ex.of (n:=40) ?_)
   (Ex.seq (Ex.seq (Ex.of (n:=40) ?_) hl.block) (Ex.of (n:=n0+40) ?_)))
  ·simp -implicitDefEqProofs[f87]
  ·have hw:ah .i64 ((a.length:Int)+(b.length:Int))=((a.length+b.length:Nat):Int):=by rw[wrap_i64 (by omega)];omega
   have hmb:a.length+b.length<=200000000:=by omega
   rw[hz];generalize a.length+b.length=m at*;have hm1:(m:Int)*4<=1099511627776:=by omega
   have hm2:(m:Int)<=1099511627776:=by omega
   simp -implicitDefEqProofs[f87,LD,uk,Dq,hw,hm1,hm2,most]
  ·unfold JY;simp -implicitDefEqProofs[f87,LD]
  ·unfold JY;simp only[LD]at hc ⊢;clear hl;generalize LL o=es,a.length+b.length=m at*;simp -implicitDefEqProofs[ae.view,f87,hlo,htk,hc]
 ·simp -implicitDefEqProofs[f87,LD]
theorem WO {l:List Nat}(h:bT l)(n:Nat):bE l n=val l / 4294967296 ^ n % 4294967296:=by
 have h1:=xE l n;have h2:=nL h n;have h3:=iQ l n;have h4:=cZ h n;have h5:val l / 4294967296 ^ n=val (l.drop n):=by
  rw[h1,Nat.add_mul_div_left _ _ (Nat.pow_pos (by omega)),Nat.div_eq_of_lt h2,Nat.zero_add]
 rw[h5,h3];omega
theorem and1 {x:Nat}(hx:x<4294967296):nE .u32 (x:Int) 1=((x % 2:Nat):Int):=by
 rw[zP,<-b_]
 change ah .u32 ((BitVec.ofInt 32 (x:Int) &&& BitVec.ofInt 32 1).toNat:Int)=_
 rw[BitVec.ofInt_natCast];have e1:BitVec.ofInt 32 1=BitVec.ofNat 32 1:=by rfl
 rw[e1,BitVec.toNat_and,BitVec.toNat_ofNat,BitVec.toNat_ofNat,Nat.mod_eq_of_lt (by omega),Nat.mod_eq_of_lt (by omega),Nat.and_one_is_mod];exact wrap_u32 (by omega)
theorem agb {s:Nat}(hs:s<32):Kb .u32 1 (s:Int)=((2 ^ s:Nat):Int):=by
 rw[zJ,<-b_];have h2:min ((s:Int).toNat) (IntKind.bits .u32)=s:=by simp[IntKind.bits];omega
 have h3:2 ^ s<4294967296:=by
  have:=Nat.pow_lt_pow_right (a:=2) (by omega) hs;simpa using this
 rw[h2,Int.one_mul];have e:((2:Int) ^ s)=((2 ^ s:Nat):Int):=by simp
 rw[e];generalize 2 ^ s=p at*;exact wrap_u32 (by omega)
theorem or_bit {L s:Nat}(hL:L<4294967296)(hs:s<32)(h:L % 2 ^ (s+1)=0):Am .u32 (L:Int) ((2 ^ s:Nat):Int)=((L+2 ^ s:Nat):Int)/\L+2 ^ s<4294967296:=by
 have h3:2 ^ s<2 ^ (s+1):=Nat.pow_lt_pow_right (by omega) (by omega);have e1:L=(L / 2 ^ (s+1)) <<< (s+1):=by
  rw[Nat.shiftLeft_eq];have:=Nat.div_add_mod L (2 ^ (s+1));rw[h,Nat.add_zero,Nat.mul_comm]at this;exact this.symm
 have e2:L ||| 2 ^ s=L+2 ^ s:=by
  have:=Nat.shiftLeft_add_eq_or_of_lt h3 (L / 2 ^ (s+1));rw[<-e1]at this;exact this.symm
 have hp:2 ^ s<4294967296:=by
  have:=Nat.pow_lt_pow_right (a:=2) (by omega) hs;simpa using this
 have hor:L ||| 2 ^ s<2 ^ 32:=Nat.or_lt_two_pow (by simpa using hL) (by simpa using hp);have hlt:L+2 ^ s<4294967296:=by rw[<-e2];simpa using hor
 refine⟨?_,hlt⟩;rw[xA,<-b_]
 change ah .u32 ((BitVec.ofInt 32 (L:Int) ||| BitVec.ofInt 32 ((2 ^ s:Nat):Int)).toNat:Int)=_
 rw[BitVec.ofInt_natCast,BitVec.ofInt_natCast,BitVec.toNat_or,BitVec.toNat_ofNat,BitVec.toNat_ofNat,Nat.mod_eq_of_lt (by simpa using hL),Nat.mod_eq_of_lt (by simpa using hp),e2];exact wrap_u32 (by omega)
def Eb:aH:=f171.body.r.r.r.l.r.bl.lp
def okr (rv:FV)(r:Nat):Prop:=rv=.d (LD (enc r))\/(r=0/\rv=.d (.n 1))
def Dw (a b:List Nat)(es:List D)(n:Nat)(rv:FV)(i:Int)(t t8 t9:FV):St:=(st0 [.d (LD a),.d (LD b),.u,.u,.ls (.loc 0) 0 1 0 n,rv,.d (.v (.int .i64 i)),t,t8,t9] [.row 0 1 es])
theorem aat (a b:List Nat)(es:List D)(n:Nat)(rv:FV):EX E0 60 Eb (Dw a b es n rv (-1) .u .u .u)=some (.exit 0,Dw a b es n rv (-1) (.d (.v (.bool false))) .u .u):=by
 unfold Dw;simp only[LD];generalize LL a=as',LL b=bs at*;simp -implicitDefEqProofs[Eb,f171]
theorem adv (a b:List Nat)(es:List D)(n:Nat)(rv:FV)(r:Nat)(i:Int)(h:okr rv r)(lr:sz r<=10000000) :
  Ex E0 Eb.r.l.bl.l (Dw a b es n rv i (.d (.v (.bool true))) .u .u) (.norm,Dw a b es n (.d (LD (enc (2*r)))) i .u .u .u):=by
 unfold sz at lr;obtain⟨N,t⟩:=(AP (enc r) (enc r) (by omega) (by omega) (aQ _) (aQ _)).get;rw[aT,show r+r=2*r by omega]at t;refine Ex.of (n:=N+60) ?_;unfold Dw;rcases h with rfl|⟨rfl,rfl⟩
 ·simp only[LD]at t ⊢;generalize LL a=as',LL b=bs,LL (enc r)=rs,LL (enc (2*r))=rs2 at*;simp -implicitDefEqProofs[Eb,f171,t]
 ·simp only[dn,LD,LL,List.map_nil,Nat.mul_zero]at t ⊢;generalize List.map (fun(x:Nat)=>D.v (Value.int IntKind.u32 (x:Int))) a=as' at*;generalize List.map (fun(x:Nat)=>D.v (Value.int IntKind.u32 (x:Int))) b=bs at*;simp -implicitDefEqProofs[Eb,f171,t]
theorem adw (a b:List Nat)(es:List D)(n:Nat)(r i x:Nat)(ha:a[i / 32]?=some x)(hx:x<4294967296)(hi:i<=1000000000)(lr:sz r<=10000000) :
  ∃ t8,Ex E0 Eb.r.l.bl.r.l (Dw a b es n (.d (LD (enc r))) i .u .u .u) (.norm,Dw a b es n (.d (LD (enc (r+x / 2 ^ (i % 32) % 2)))) i .u t8 .u):=by
 have hxa:(LL a)[i / 32]?=some (.v (.int .u32 (x:Int))):=by simp[LL,ha]
 have hla:i / 32<(LL a).length:=by simpa[LL] using(bH ha)
 have w1:Int.tdiv (i:Int) 32=((i / 32:Nat):Int):=by rw[Int.tdiv_eq_ediv_of_nonneg (by omega)];omega
 have w2:ah .i64 ((i / 32:Nat):Int)=((i / 32:Nat):Int):=wrap_i64 (by omega);have w3:Int.tmod (i:Int) 32=((i % 32:Nat):Int):=by rw[Int.tmod_eq_emod_of_nonneg (by omega)];omega
 have w4:ah .u64 ((i % 32:Nat):Int)=((i % 32:Nat):Int):=wrap_u64 (by omega);have hs:i % 32<32:=Nat.mod_lt _ (by omega);generalize i % 32=s,i / 32=w at*;have w5:Int.fdiv (x:Int) (2 ^ (min s 32))=((x / 2 ^ s:Nat):Int):=by
  rw[show min s 32=s by omega,Int.fdiv_eq_ediv_of_nonneg _ (Int.pow_nonneg (by omega)),Int.natCast_ediv];simp
 have hq:x / 2 ^ s<4294967296:=Nat.lt_of_le_of_lt (Nat.div_le_self _ _) hx;generalize x / 2 ^ s=y at*;have w6:=and1 hq;have hs0:¬ ((s:Int)<0):=by omega
 unfold sz at lr;have h2:y % 2=0\/y % 2=1:=by omega
 rcases h2 with h2|h2
 ·rw[h2]at w6 ⊢;refine⟨.d (.v (.bool false)),Ex.of (n:=60) ?_⟩;unfold Dw;simp only[LD,Nat.add_zero];generalize LL a=as',LL b=bs,LL (enc r)=rs at*;have i1:=idx hxa;simp -implicitDefEqProofs[IntKind.bits,Eb,f171,hla,hxa,i1,w1,w2,w3,w4,w5,w6,hs0]
 ·rw[h2]at w6 ⊢;obtain⟨N,t⟩:=(AP (enc r) [1] (by omega) (by simp) (aQ _) (by intro z hz;simp at hz;omega)).get;rw[aT,show val [1]=1 by simp[val]]at t;refine⟨.u,Ex.of (n:=N+60) ?_⟩;unfold Dw;simp only[LD,LL,List.map_cons,List.map_nil]at hxa hla t ⊢;generalize List.map (fun(x:Nat)=>D.v (Value.int IntKind.u32 (x:Int))) a=as' at*;generalize List.map (fun(x:Nat)=>D.v (Value.int IntKind.u32 (x:Int))) b=bs at*;generalize List.map (fun(x:Nat)=>D.v (Value.int IntKind.u32 (x:Int))) (enc r)=rs at*;generalize List.map (fun(x:Nat)=>D.v (Value.int IntKind.u32 (x:Int))) (enc (r+1))=rs2 at*;have i1:=idx hxa;simp only[Int.natCast_one]at t;simp -implicitDefEqProofs[IntKind.bits,Eb,f171,hla,hxa,i1,w1,w2,w3,w4,w5,w6,hs0,t]
theorem adx (a:List Nat)(y:Nat)(Q:List Nat)(r i:Nat)(t8:FV)(hi:i<=1000000000)(lr:sz r<=10000000)(ly:sz y<=10000000)(hQ:bT Q)(hw:i / 32<Q.length)(hbit:bE Q (i / 32) % 2 ^ (i % 32+1)=0) :
  ∃ t9,Ex E0 Eb.r.l.bl.r.r (Dw a (enc y) (LL Q) Q.length (.d (LD (enc r))) i .u t8 .u)
   (.norm,Dw a (enc y) (LL (if y<=r then Q.set (i / 32) (bE Q (i / 32)+2 ^ (i % 32)) else Q)) Q.length (.d (LD (enc (if y<=r then r-y else r)))) i .u .u t9):=by
 obtain⟨n1,t1⟩:=(MX r y (by omega) (by omega)).any;have hs:i % 32<32:=Nat.mod_lt _ (by omega);have hL:=cZ hQ (i / 32);obtain⟨o1,o2⟩:=or_bit hL hs hbit;have hse:=agb hs;have w1:Int.tdiv (i:Int) 32=((i / 32:Nat):Int):=by rw[Int.tdiv_eq_ediv_of_nonneg (by omega)];omega
 have w2:ah .i64 ((i / 32:Nat):Int)=((i / 32:Nat):Int):=wrap_i64 (by omega);have w3:Int.tmod (i:Int) 32=((i % 32:Nat):Int):=by rw[Int.tmod_eq_emod_of_nonneg (by omega)];omega
 have w4:ah .u64 ((i % 32:Nat):Int)=((i % 32:Nat):Int):=wrap_u64 (by omega);have hge:(LL Q)[i / 32]?=some (.v (.int .u32 ((bE Q (i / 32):Nat):Int))):=by simp[LL,bE,List.getElem?_eq_getElem hw]
 have hset:LL (Q.set (i / 32) (bE Q (i / 32)+2 ^ (i % 32)))=(LL Q).set (i / 32) (.v (.int .u32 ((bE Q (i / 32)+2 ^ (i % 32):Nat):Int))):=by simp[LL,List.map_set]
 have hlen:(LL Q).length=Q.length:=by simp[LL]
 by_cases QQ:y<=r
 ·have hc:(0:Int)<=dL r y:=by unfold dL;rw[if_neg (by omega)];split<;>omega
  unfold sz at lr ly;obtain⟨n2,t2⟩:=(Ea (enc r) (enc y) (by omega) (bI QQ) (aQ _) (aQ _) (by rw[aT,aT];exact QQ)).any;rw[aT,aT]at t2;replace t1:=t1 (n1+n2) (by omega);replace t2:=t2 (n1+n2) (by omega);generalize n1+n2=N at*;rw[if_pos QQ,if_pos QQ,hset];refine⟨.u,Ex.of (n:=N+60) ?_⟩;unfold Dw;generalize bE Q (i / 32)+2 ^ (i % 32)=v at*;generalize 2 ^ (i % 32)=p at*;have hs0:¬ (((i % 32:Nat):Int)<0):=by omega
  generalize i % 32=s,bE Q (i / 32)=q0 at*;generalize i / 32=w,dL r y=cc at*;simp only[LD]at t1 t2 ⊢;generalize LL a=as',LL Q=es,LL (enc r)=rs,LL (enc y)=ys,LL (enc (r-y))=ms at*;have i1:=idx hge;generalize Q.length=l at*;simp -implicitDefEqProofs[IntKind.bits,Eb,f171,hlen,hw,hge,i1,t1,t2,hc,w1,w2,w3,w4,o1,hse,hs0]
 ·have hc:dL r y=-1:=by unfold dL;rw[if_pos (by omega)]
  rw[hc]at t1;replace t1:=t1 n1 (by omega);rw[if_neg QQ,if_neg QQ];refine⟨.d (.v (.bool false)),Ex.of (n:=n1+60) ?_⟩;unfold Dw;simp only[LD]at t1 ⊢;generalize LL a=as',LL Q=es,LL (enc r)=rs,LL (enc y)=ys at*;simp -implicitDefEqProofs[Eb,f171,t1]
theorem vE (w:Nat):(2:Nat) ^ (32*w)=4294967296 ^ w:=by rw[Nat.pow_mul]
theorem HV (x j:Nat):x / 4294967296 ^ (j / 32) % 4294967296 / 2 ^ (j % 32) % 2=x / 2 ^ j % 2:=by
 have hj:j=32*(j / 32)+j % 32:=by omega
 have hs:j % 32<32:=Nat.mod_lt _ (by omega);have e:x / 2 ^ j=x / 4294967296 ^ (j / 32) / 2 ^ (j % 32):=by
  conv=>lhs;rw[hj,Nat.pow_add,vE,<-Nat.div_div_eq_div_mul]
 rw[e];generalize x / 4294967296 ^ (j / 32)=z;generalize j % 32=s at*;have hp:0<2 ^ s:=Nat.pow_pos (by omega);have e2:4294967296=2 ^ s*(2*2 ^ (31-s)):=by
  rw[<-Nat.mul_assoc,Nat.mul_comm (2 ^ s) 2,<-Nat.pow_succ',<-Nat.pow_add,show s+1+(31-s)=32 by omega]
 have e3:z / 2 ^ s=z % 4294967296 / 2 ^ s+2*(2 ^ (31-s)*(z / 4294967296)):=by
  conv=>lhs;rw[<-Nat.mod_add_div z 4294967296]
  have:4294967296*(z / 4294967296)=2 ^ s*(2*(2 ^ (31-s)*(z / 4294967296))):=by
   conv=>lhs;lhs;rw[e2]
   rw[Nat.mul_assoc,Nat.mul_assoc]
  rw[this,Nat.add_mul_div_left _ _ hp]
 omega
theorem Ec {Q:List Nat}(hQ:bT Q){q j:Nat}(hv:val Q=q*2 ^ (j+1)):bE Q (j / 32) % 2 ^ (j % 32+1)=0:=by
 have hs:j % 32<32:=Nat.mod_lt _ (by omega);have hj:j+1=32*(j / 32)+(j % 32+1):=by omega
 rw[WO hQ,hv];have e:q*2 ^ (j+1)=4294967296 ^ (j / 32)*(q*2 ^ (j % 32+1)):=by
  conv=>lhs;rw[hj,Nat.pow_add,vE]
  generalize 4294967296 ^ (j / 32)=A;generalize 2 ^ (j % 32+1)=C;grind
 rw[e,Nat.mul_div_cancel_left _ (Nat.pow_pos (by omega))];have hd:2 ^ (j % 32+1) ∣ 4294967296:=by
  have:(4294967296:Nat)=2 ^ 32:=by rfl
  rw[this];exact Nat.pow_dvd_pow 2 (by omega)
 rw[Nat.mod_mod_of_dvd _ hd,Nat.mul_mod_left]
theorem WQ {H y b:Nat}(hy:0<y)(hb:b<2) :
  (2*H+b) / y=(if y<=2*(H % y)+b then 2*(H / y)+1 else 2*(H / y))/\(2*H+b) % y=if y<=2*(H % y)+b then 2*(H % y)+b-y else 2*(H % y)+b:=by
 have h1:=Nat.div_add_mod H y;have h2:=Nat.mod_lt H hy;generalize H % y=r,H / y=q at*;have e:2*H+b=y*(2*q)+(2*r+b):=by
  rw[<-h1];grind
 by_cases h:y<=2*r+b
 ·rw[if_pos h,if_pos h];have e2:2*H+b=y*(2*q+1)+(2*r+b-y):=by rw[e,Nat.mul_add,Nat.mul_one];omega
  have hlt:2*r+b-y<y:=by omega
  rw[e2,Nat.mul_add_div hy,Nat.div_eq_of_lt hlt,Nat.mul_add_mod,Nat.mod_eq_of_lt hlt];exact⟨rfl,rfl⟩
 ·rw[if_neg h,if_neg h];have hlt:2*r+b<y:=by omega
  rw[e,Nat.mul_add_div hy,Nat.div_eq_of_lt hlt,Nat.mul_add_mod,Nat.mod_eq_of_lt hlt];exact⟨rfl,rfl⟩
theorem WR (x y:Nat)(hy:0<y)(lx:sz x<=1000000)(ly:sz y<=1000000) :
  ∃ r,Ex E0 (.loop Eb) (Dw (enc x) (enc y) (LL (row0 [] (sz x))) (sz x) (.d (.n 1)) (((32*sz x:Nat):Int)-1) .u .u .u) r /\
   ∃ Q rv,bT Q/\Q.length=sz x/\val Q=x / y/\okr rv (x % y)/\r=(.exit 0,Dw (enc x) (enc y) (LL Q) (sz x) rv (-1) (.d (.v (.bool false))) .u .u):=by
 refine Ex.inv (S:=fun t:Nat × List Nat × FV=>Dw (enc x) (enc y) (LL t.2.1) (sz x) t.2.2 ((t.1:Int)-1) .u .u .u) (fun t=>t.1)
  (fun t=>t.1<=32*sz x/\bT t.2.1/\t.2.1.length=sz x/\val t.2.1=x / 2 ^ t.1 / y*2 ^ t.1/\okr t.2.2 (x / 2 ^ t.1 % y)) _ ?_ (32*sz x,row0 [] (sz x),.d (.n 1)) ?_
 ·rintro⟨j,Q,rv⟩ ⟨h1,h2,h3,h4,h5⟩;simp only at h1 h2 h3 h4 h5;cases j with
  | zero =>
   simp only[Nat.pow_zero,Nat.div_one,Nat.mul_one]at h4 h5;refine .inr ⟨_,?_,by simp,Q,rv,h2,h3,h4,h5,rfl⟩;have:=aat (enc x) (enc y) (LL Q) (sz x) rv;simpa using Ex.of this
  | succ j =>
   have hw:j / 32<sz x:=by omega
   have hr2:x / 2 ^ (j+1) % y<y:=Nat.mod_lt _ hy;have hsr:sz (x / 2 ^ (j+1) % y)<=1000000:=Nat.le_trans (oF (by omega)) ly;have p1:=adv (enc x) (enc y) (LL Q) (sz x) rv _ (j:Int) h5 (by omega);have aiZ:sz (2*(x / 2 ^ (j+1) % y))<=1000002:=by
    have:=Ku (x / 2 ^ (j+1) % y) (x / 2 ^ (j+1) % y);rw[show x / 2 ^ (j+1) % y+x / 2 ^ (j+1) % y=2*(x / 2 ^ (j+1) % y) by omega]at this;omega
   have hax:(enc x)[j / 32]?=some (bE (enc x) (j / 32)):=by
    have:j / 32<(enc x).length:=hw;simp[bE,List.getElem?_eq_getElem this]
   obtain⟨t8,p2⟩:=adw (enc x) (enc y) (LL Q) (sz x) (2*(x / 2 ^ (j+1) % y)) j _ hax (cZ (aQ x) _) (by omega) (by omega);rw[vg,HV]at p2;have hb:x / 2 ^ j % 2<2:=Nat.mod_lt _ (by omega);have hH:x / 2 ^ j=2*(x / 2 ^ (j+1))+x / 2 ^ j % 2:=by
    rw[Nat.pow_succ,<-Nat.div_div_eq_div_mul];omega
   obtain⟨d1,d2⟩:=WQ (H:=x / 2 ^ (j+1)) hy hb;rw[<-hH]at d1 d2;have ai0:sz (2*(x / 2 ^ (j+1) % y)+x / 2 ^ j % 2)<=1000004:=by
    have:=Ku (2*(x / 2 ^ (j+1) % y)) (x / 2 ^ j % 2);have h1s:sz (x / 2 ^ j % 2)<=1:=tQ (by omega);omega
   obtain⟨t9,p3⟩:=adx (enc x) y Q (2*(x / 2 ^ (j+1) % y)+x / 2 ^ j % 2) j t8 (by omega) (by omega) (by omega) h2 (by omega) (Ec h2 h4);rw[<-d2,h3]at p3;have w3:ah .i64 ((j:Int)-1)=(j:Int)-1:=wrap_i64 (by omega);have w4:(0:Int)<=(j:Int):=by omega
   have hlim:=cZ h2 (j / 32);refine .inl ⟨(j,if y<=2*(x / 2 ^ (j+1) % y)+x / 2 ^ j % 2 then Q.set (j / 32) (bE Q (j / 32)+2 ^ (j % 32)) else Q,.d (LD (enc (x / 2 ^ j % y)))),?_,by simp,by simp only;omega,?_,?_,?_,.inl rfl⟩
   ·simp only;rw[show(((j+1:Nat):Int)-1)=(j:Int) by omega];generalize (if y<=2*(x / 2 ^ (j+1) % y)+x / 2 ^ j % 2 then Q.set (j / 32) (bE Q (j / 32)+2 ^ (j % 32)) else Q)=Q',x / 2 ^ j % y=r' at*;show Ex E0 (.seq Eb.l (.seq (.block 1 (.seq Eb.r.l.bl.l (.seq Eb.r.l.bl.r.l Eb.r.l.bl.r.r))) Eb.r.r)) _ _;refine Ex.seq (Ex.of (n:=40) ?_) (Ex.seq (Ex.h_ (p1.seq (p2.seq p3))) (Ex.of (n:=40) ?_))
    ·unfold Dw;simp only[LD];generalize LL (enc x)=as' at*;generalize LL (enc y)=bs at*;generalize LL Q=es at*;simp -implicitDefEqProofs[Eb,f171,w4]
    ·unfold Dw;simp only[LD];generalize LL (enc x)=as' at*;generalize LL (enc y)=bs at*;generalize LL Q'=es at*;generalize LL (enc r')=rs at*;simp -implicitDefEqProofs[Eb,f171,w3]
   ·simp only;split
    ·exact Fp h2 (or_bit hlim (Nat.mod_lt _ (by omega)) (Ec h2 h4)).2
    ·exact h2
   ·simp only;split
    ·simp[h3]
    ·exact h3
   ·simp only;rw[d1];split
    ·have hvs:=zK Q (j / 32) (bE Q (j / 32)+2 ^ (j % 32)) (by omega);have e2:4294967296 ^ (j / 32)*2 ^ (j % 32)=2 ^ j:=by
      rw[<-vE,<-Nat.pow_add,show 32*(j / 32)+j % 32=j by omega]
     rw[Nat.mul_add,e2,h4,Nat.pow_succ]at hvs;have e3:(2*(x / (2 ^ j*2) / y)+1)*2 ^ j=x / (2 ^ j*2) / y*(2 ^ j*2)+2 ^ j:=by grind
     rw[Nat.pow_succ,e3];omega
    ·rw[h4,Nat.pow_succ];grind
 ·have hx0:x / 2 ^ (32*sz x)=0:=by rw[vE];exact Nat.div_eq_of_lt (Ho x)
  refine⟨Nat.le_refl _,?_,by simp[row0],?_,.inr ⟨?_,rfl⟩⟩
  ·intro z hz;simp[row0]at hz;omega
  ·have:∀ m,val (List.replicate m 0)=0:=by
    intro m
    induction m with
    | zero=>rfl
    | succ m ih=>rw[List.replicate_succ,val,ih]
   simp only[row0,List.nil_append,this,hx0];simp
  ·simp only[hx0,Nat.zero_mod]
theorem xG (x y:Nat)(hy:0<y)(lx:sz x<=1000000)(ly:sz y<=1000000) :
  Ca E0 171 [.d (LD (enc x)),.d (LD (enc y))] (.d (.t [LD (enc (x / y)),LD (enc (x % y))]),none):=by
 obtain⟨r,hloop,Q,rv,hQ,Z_,hv,hr,rfl⟩:=WR x y hy lx ly;obtain⟨n0,hc⟩:=(vC Q (by omega)).get;rw[cB hQ,hv]at hc;have uk:(LL (enc x)).length=sz x:=by simp[LL,sz]
 have hlo:(LL Q).length=sz x:=by simp[LL,Z_]
 have htk:(LL Q).take (sz x)=LL Q:=List.take_of_length_le (by omega);have hz:=ve (sz x);generalize enc (x / y)=res at*;refine Ca.body (o:=.ret) (st1:=(st0 [.u,.u,.d (LD res),rv,.u,.u,.u,.u,.u,.u] [.gG 0 1 (LL Q)])) rfl (k171:E0.fn _=_) rfl ?_ (by intro id h;cases h) ?_
 ·show Ex E0 (.seq f171.body.l (.seq f171.body.r.l (.seq f171.body.r.r.l (.seq (.seq f171.body.r.r.r.l.l (.block 0 (.loop Eb))) f171.body.r.r.r.r)))) _ _;refine Ex.seq (st1:=(st0 [.d (LD (enc x)),.d (LD (enc y)),.u,.u,.u,.u,.u,.u,.u,.u] [])) (Ex.of (n:=40) ?_)
   (Ex.seq (st1:=(st0 [.d (LD (enc x)),.d (LD (enc y)),.u,.u,.ls (.loc 0) 0 1 0 (sz x),.u,.u,.u,.u,.u] [.row 0 1 (LL (row0 [] (sz x)))])) (Ex.of (n:=40) ?_)
   (Ex.seq (st1:=(st0 [.d (LD (enc x)),.d (LD (enc y)),.u,.u,.ls (.loc 0) 0 1 0 (sz x),.d (.n 1),.u,.u,.u,.u] [.row 0 1 (LL (row0 [] (sz x)))])) (Ex.of (n:=40) ?_)
   (Ex.seq (Ex.seq (Ex.of (n:=40) ?_) hloop.block) (Ex.of (n:=n0+40) ?_))))
  ·simp -implicitDefEqProofs[f171]
  ·have hm1:((sz x:Nat):Int)*4<=1099511627776:=by omega
   have hm2:((sz x:Nat):Int)<=1099511627776:=by omega
   rw[hz];simp only[LD];generalize LL (enc x)=as',LL (enc y)=bs,sz x=m at*;simp -implicitDefEqProofs[f171,uk,hm1,hm2,most]
  ·simp -implicitDefEqProofs[f171]
  ·have w1:ah .i64 (32*((sz x:Nat):Int))=((32*sz x:Nat):Int):=by rw[wrap_i64 (by omega)];omega
   have w2:ah .i64 (((32*sz x:Nat):Int)-1)=((32*sz x:Nat):Int)-1:=wrap_i64 (by omega);unfold Dw;simp only[LD];generalize LL (enc x)=as',LL (enc y)=bs,LL (row0 [] (sz x))=es,32*sz x=m32 at*;generalize sz x=m at*;simp -implicitDefEqProofs[f171,uk,w1,w2]
  ·unfold Dw;clear hloop;simp only[LD]at hc ⊢;generalize LL Q=es,sz x=m at*;simp -implicitDefEqProofs[ae.view,f171,hlo,htk,hc]
 ·rcases hr with rfl|⟨h0,rfl⟩
  ·simp -implicitDefEqProofs[f171,LD,tN]
  ·rw[h0];simp -implicitDefEqProofs[f171,LD,LL,dn,tN]
def wgB:aH:=f170.body.r.l.bl.lp
theorem RS (a:Nat):Ex E0 wgB (Dr a 0 .u) (.exit 0,Dr a 0 (.d (.v (.bool false)))):=by
 refine Ex.of (n:=40) ?_;unfold Dr;simp only[dn,LD];generalize LL (enc a)=as';simp -implicitDefEqProofs[wgB,f170,LL]
theorem Kz (a b:Nat)(la:sz a<=1000000)(lb:sz b<=1000000)(hb0:0<b):Ex E0 wgB (Dr a b .u) (.norm,Dr b (a % b) .u):=by
 obtain⟨n0,ho⟩:=(xG a b hb0 la lb).get;refine Ex.of (n:=n0+60) ?_;unfold Dr;have hlb:∃ m,(LL (enc b)).length=m+1:=by
  have:0<(enc b).length:=List.length_pos_iff.2 (by intro e;rw[dR]at e;omega);exact⟨(enc b).length-1,by simp[LL];omega⟩
 obtain⟨m,hlb⟩:=hlb;have hm:0<(m:Int)+1:=by omega
 simp only[LD]at ho ⊢;generalize LL (enc a)=as',LL (enc b)=bs,LL (enc (a / b))=qs,LL (enc (a % b))=rs at*;simp -implicitDefEqProofs[wgB,f170,hlb,ho,hm]
theorem OB (a b:Nat)(la:sz a<=1000000)(lb:sz b<=1000000):Ex E0 (.loop wgB) (Dr a b .u) (.exit 0,Dr (Nat.gcd a b) 0 (.d (.v (.bool false)))):=by
 induction b using Nat.strongRecOn generalizing a with
 | ind b ih =>
  rcases Nat.eq_zero_or_pos b with rfl|h0
  ·rw[Nat.gcd_zero_right];exact Ex.out (RS a) (by simp)
  ·have hm:=Nat.mod_lt a h0;have:=ih (a % b) hm b lb (Nat.le_trans (oF (by omega)) lb);have hg:Nat.gcd a b=Nat.gcd b (a % b):=by rw[Nat.gcd_comm a b,Nat.gcd_rec b a,Nat.gcd_comm]
   rw[hg];exact Ex.next (Kz a b la lb h0) this
theorem AQ (a b:Nat)(la:sz a<=1000000)(lb:sz b<=1000000):Ca E0 170 [.d (LD (enc a)),.d (LD (enc b))] (.d (LD (enc (Nat.gcd a b))),none):=by
 have hl:=OB a b la lb;generalize Nat.gcd a b=g at*;refine Ca.body (o:=.ret) (st1:=(st0 [.u,.u,.d (LD (enc g)),.u,.u] [])) rfl (k170:E0.fn _=_) rfl ?_ (by intro id h;cases h) ?_
 ·show Ex E0 (.seq f170.body.l (.seq (.block 0 (.loop wgB)) f170.body.r.r)) _ _;refine Ex.seq (st1:=Dr a b .u) (Ex.of (n:=40) ?_) (Ex.seq hl.block (Ex.of (n:=40) ?_))
  ·unfold Dr;simp -implicitDefEqProofs[f170]
  ·unfold Dr;simp -implicitDefEqProofs[f170]
 ·simp -implicitDefEqProofs[f170,LD]
theorem last_cases (l:List Nat):l=[]\/∃ (m x:Nat),l.length=m+1/\(LL l)[m]?=some (.v (.int .u32 (x:Int)))/\((x:Int)==0) = !uq l:=by
 rcases List.eq_nil_or_concat l with h|⟨b,x,h⟩
 ·exact .inl h
 ·refine .inr ⟨b.length,x,by simp[h],by simp[LL,h],?_⟩;rw[h,List.concat_eq_append];unfold uq
  by_cases hx:x=0
  ·subst hx;rw[rX];have h2:=qG b;have h3:¬ trim b=b++[0]:=by
    intro e;rw[e]at h2;simp only[List.length_append,List.length_cons,List.length_nil]at h2;omega
   simp[h3]
  ·rw[rW b x hx];have:((x:Int)==0)=false:=by simp;omega
   simp[this]
theorem zQ {g:Nat}:enc g=[1]↔g=1:=by
 constructor
 ·intro h;have:=aT g;rw[h]at this;simp[val]at this;omega
 ·rintro rfl;exact jf (by omega) (by omega)
theorem OC (s:Bool)(a b:List Nat)(hb:bT b) :
  dM s a b=(if !uq a || !uq b||decide (b=[1]) then false else if a=[] then !s&&decide (b=[]) else decide (b=[])||decide (Nat.gcd (val a) (val b)=1)):=by
 unfold dM;cases uq a
 ·simp
 ·cases h:uq b
  ·simp
  ·simp only[Bool.true_and,Bool.not_true,Bool.false_or]
   by_cases h1:b=[1]
   ·subst h1;simp[val]
   ·have hv:b≠[]->val b≠1:=by
     intro _ hv;have:=(mR hb).1 h;rw[hv]at this;exact h1 (this.trans (zQ.2 rfl))
    simp only[h1,decide_false,Bool.false_eq_true,if_false]
    by_cases h0:b=[]
    ·subst h0;simp
    ·simp only[h0,decide_false,Bool.and_false,Bool.false_or,hv h0,ne_eq,not_false_eq_true,decide_true,Bool.true_and]
theorem r_ (s:Bool)(a b:List Nat)(la:a.length<=1000000)(lb:b.length<=1000000)(ha:bT a)(hb:bT b):Ca E0 97 [.d (raw s a b)] (.d (.v (.bool (dM s a b))),none):=by
 rw[OC s a b hb];have h1:=fun m=>AO m b
 -- the two last limbs
 have ca:=last_cases a;have cb:=last_cases b;have hla:(LL a).length=a.length:=by simp[LL]
 have hlb:(LL b).length=b.length:=by simp[LL]
 by_cases hbad:(!uq a || !uq b||decide (b=[1]))=true
 ·rw[if_pos hbad];refine Ca.bO (n:=90) ?_;rw[ak rfl (k97:E0.fn _=_) rfl];rcases ca with rfl|⟨m,x,hm,hx,hx0⟩
  ·have ok0:uq []=true:=by simp[uq,trim]
   rw[ok0]at hbad;rcases cb with rfl|⟨m2,y,hm2,hy,hy0⟩
   ·rw[ok0]at hbad;simp at hbad
   ·have p2:(0:Int)<(m2:Int)+1:=by omega
    have w2:ah .i64 (m2:Int)=(m2:Int):=wrap_i64 (by omega);rw[hm2]at hlb;cases GN:uq b
    ·rw[GN]at hy0;simp only[raw,LD]at h1 ⊢;generalize LL b=bs at*;have i2:=idx hy;simp only[LL,List.map_nil];simp -implicitDefEqProofs[f97,hlb,hy,i2,hy0,p2,w2]
    ·rw[GN]at hy0 hbad;have h11:decide (b=[1])=true:=by simpa using hbad
     rw[h11]at h1;simp only[raw,LD]at h1 ⊢;generalize LL b=bs at*;have i2:=idx hy;simp only[LL,List.map_nil];simp -implicitDefEqProofs[f97,hlb,hy,i2,hy0,p2,w2,h1]
  ·have p1:(0:Int)<(m:Int)+1:=by omega
   have w1:ah .i64 (m:Int)=(m:Int):=wrap_i64 (by omega);rw[hm]at hla;cases hoa:uq a
   ·rw[hoa]at hx0;simp only[raw,LD]at h1 ⊢;generalize LL a=as',LL b=bs at*;have i1:=idx hx;simp -implicitDefEqProofs[f97,hla,hx,i1,hx0,p1,w1]
   ·rw[hoa]at hx0 hbad;rcases cb with rfl|⟨m2,y,hm2,hy,hy0⟩
    ·have ok0:uq []=true:=by simp[uq,trim]
     rw[ok0]at hbad;simp at hbad
    ·have p2:(0:Int)<(m2:Int)+1:=by omega
     have w2:ah .i64 (m2:Int)=(m2:Int):=wrap_i64 (by omega);rw[hm2]at hlb;cases GN:uq b
     ·rw[GN]at hy0;simp only[raw,LD]at h1 ⊢;generalize LL a=as',LL b=bs at*;have i1:=idx hx;have i2:=idx hy;simp -implicitDefEqProofs[f97,hla,hx,i1,hx0,p1,w1,hlb,hy,i2,hy0,p2,w2]
     ·rw[GN]at hy0 hbad;have h11:decide (b=[1])=true:=by simpa using hbad
      rw[h11]at h1;simp only[raw,LD]at h1 ⊢;generalize LL a=as',LL b=bs at*;have i1:=idx hx;have i2:=idx hy;simp -implicitDefEqProofs[f97,hla,hx,i1,hx0,p1,w1,hlb,hy,i2,hy0,p2,w2,h1]
 ·rw[if_neg hbad];simp only[Bool.or_eq_true,Bool.not_eq_true',decide_eq_true_eq,not_or,Bool.not_eq_false]at hbad;obtain⟨⟨hoa,GN⟩,hb1⟩:=hbad;have h10:decide (b=[1])=false:=by simpa using hb1
  rw[h10]at h1;rcases ca with rfl|⟨m,x,hm,hx,hx0⟩
  ·rw[if_pos rfl];refine Ca.bO (n:=90) ?_;rw[ak rfl (k97:E0.fn _=_) rfl];rcases cb with rfl|⟨m2,y,hm2,hy,hy0⟩
   ·simp only[raw,LD,LL,List.map_nil]at h1 ⊢;cases s<;>simp -implicitDefEqProofs[f97,h1]
   ·have p2:(0:Int)<(m2:Int)+1:=by omega
    have w2:ah .i64 (m2:Int)=(m2:Int):=wrap_i64 (by omega);have hbn:decide (b=[])=false:=by
     have:¬ b=[]:=by intro e;rw[e]at hm2;simp at hm2
     simpa using this
    have hne:(((m2:Int)+1)==0)=false:=by simp;omega
    rw[hm2]at hlb;rw[GN]at hy0;rw[hbn];simp only[raw,LD]at h1 ⊢;generalize LL b=bs at*;have i2:=idx hy;simp only[LL,List.map_nil];cases s<;>simp -implicitDefEqProofs[f97,hlb,hy,i2,hy0,p2,w2,h1,hne]
  ·have p1:(0:Int)<(m:Int)+1:=by omega
   have w1:ah .i64 (m:Int)=(m:Int):=wrap_i64 (by omega);have han:¬ a=[]:=by intro e;rw[e]at hm;simp at hm
   have hne:(((m:Int)+1)==0)=false:=by simp;omega
   rw[if_neg han];rw[hoa]at hx0;rw[hm]at hla;rcases cb with rfl|⟨m2,y,hm2,hy,hy0⟩
   ·refine Ca.bO (n:=90) ?_;rw[ak rfl (k97:E0.fn _=_) rfl];simp only[raw,LD]at h1 ⊢;generalize LL a=as' at*;have i1:=idx hx;simp only[LL,List.map_nil]at h1 ⊢;simp -implicitDefEqProofs[f97,hla,hx,i1,hx0,p1,w1,h1,hne]
   ·have p2:(0:Int)<(m2:Int)+1:=by omega
    have w2:ah .i64 (m2:Int)=(m2:Int):=wrap_i64 (by omega);have hbn:¬ b=[]:=by intro e;rw[e]at hm2;simp at hm2
    have hne2:(((m2:Int)+1)==0)=false:=by simp;omega
    have hdb:decide (b=[])=false:=by simpa using hbn
    have ea:=(mR ha).1 hoa;have eb:=(mR hb).1 GN;obtain⟨N,hg⟩:=(AQ (val a) (val b) (by unfold sz;rw[<-ea];omega) (by unfold sz;rw[<-eb];omega)).get;rw[<-ea,<-eb]at hg;have hg1:=fun m=>AO m (enc (Nat.gcd (val a) (val b)))
    have e1:decide (enc (Nat.gcd (val a) (val b))=[1])=decide (Nat.gcd (val a) (val b)=1):=by simp[zQ]
    rw[e1]at hg1;refine Ca.bO (n:=N+90) ?_;rw[ak rfl (k97:E0.fn _=_) rfl];rw[hdb,Bool.false_or];rw[hm2]at hlb;rw[GN]at hy0;generalize decide (Nat.gcd (val a) (val b)=1)=res at*;simp only[raw,LD]at h1 hg hg1 ⊢;generalize LL (enc (Nat.gcd (val a) (val b)))=gs,LL a=as',LL b=bs at*;have i1:=idx hx;have i2:=idx hy;simp -implicitDefEqProofs[f97,hla,hx,i1,hx0,p1,w1,hlb,hy,i2,hy0,p2,w2,h1,hne,hne2,hg,hg1]
def bX (s:Bool)(a b:List Nat):Rat:=vk s (val a) (if b=[] then 1 else val b)
theorem su {s:Bool}{a b:List Nat}(ha:bT a)(hb:bT b)(h:dM s a b=true):raw s a b=qD (bX s a b):=by
 unfold dM at h;simp only[Bool.and_eq_true]at h;obtain⟨⟨hoa,GN⟩,hc⟩:=h;have ea:=(mR ha).1 hoa;have eb:=(mR hb).1 GN;unfold qD qn qd bX
 by_cases hna:a=[]
 ·subst hna;rw[if_pos rfl]at hc;simp only[Bool.and_eq_true,Bool.not_eq_true',decide_eq_true_eq]at hc;obtain⟨hs,hb0⟩:=hc;subst hs hb0;rw[if_pos rfl,AB (by omega),r9 (by omega),rZ (by omega)];simp[val,raw,dn]
 ·rw[if_neg hna]at hc;have hva:val a≠0:=by
   intro e;rw[e,dn]at ea;exact hna ea
  by_cases hnb:b=[]
  ·subst hnb;rw[if_pos rfl,AB (by omega),r9 (by omega),rZ (by omega),Nat.gcd_one_right,Nat.div_one,Nat.div_one,if_neg hva,if_pos rfl,<-ea]
  ·have hvb:val b≠0:=by
    intro e;rw[e,dn]at eb;exact hnb eb
   rw[if_neg hnb];simp only[hnb,decide_false,Bool.false_or,Bool.and_eq_true,decide_eq_true_eq]at hc;rw[AB (by omega),r9 (by omega),rZ (by omega),hc.2,Nat.div_one,Nat.div_one,if_neg hva,if_neg hc.1,<-ea,<-eb]
theorem qI (x:Rat):bX (qs x) (qn x) (qd x)=x:=by
 unfold bX;have h1:val (qn x)=x.num.natAbs:=aT _;have h2:(if qd x=[] then 1 else val (qd x))=x.den:=by
  unfold qd;have hd:=x.den_nz
  by_cases h:x.den=1
  ·rw[if_pos h,if_pos rfl,h]
  ·rw[if_neg h,if_neg (by rw[dR];exact hd),aT]
 rw[h1,h2,Hr]
theorem vF {s:Bool}{a b:List Nat}(ha:bT a)(hb:bT b)(k:Nat)(la:a.length<=k)(lb:b.length<=k)(hk:1<=k)(h:dM s a b=true):qz (bX s a b)<=k:=by
 unfold bX;have hd:0<(if b=[] then 1 else val b):=by
  split
  ·omega
  ·rename_i hnb;unfold dM at h;simp only[Bool.and_eq_true]at h;have eb:=(mR hb).1 h.1.2;rcases Nat.eq_zero_or_pos (val b) with e|e
   ·rw[e,dn]at eb;exact absurd eb hnb
   ·exact e
 refine Nat.le_trans (AJ hd) ?_;have h1:sz (val a)<=k:=by
  refine Nat.le_trans (tQ (k:=a.length) (nC ha)) la
 have h2:sz (if b=[] then 1 else val b)<=k:=by
  split
  ·rw[Ay];exact hk
  ·exact Nat.le_trans (tQ (k:=b.length) (nC hb)) lb
 omega
def RU (s:Bool)(a b:List Nat):D:=if dM s a b then raw s a b else raw false [] []
theorem RV (s:Bool)(a b:List Nat)(la:a.length<=1000000)(lb:b.length<=1000000)(ha:bT a)(hb:bT b):Ca E0 85 [.d (raw s a b)] (.d (RU s a b),none):=by
 obtain⟨N,t⟩:=(r_ s a b la lb ha hb).get;unfold RU;refine Ca.bO (n:=N+60) ?_;rw[ak rfl (k85:E0.fn _=_) rfl];cases hv:dM s a b
 ·rw[hv]at t;rw[if_neg (by simp)];simp only[raw,LD]at t ⊢;generalize LL a=as',LL b=bs at*;simp only[LL,List.map_nil];simp -implicitDefEqProofs[f85,t]
 ·rw[hv]at t;rw[if_pos rfl];have l1:(LL a).length<=1000000:=by simpa[LL] using la
  have l2:(LL b).length<=1000000:=by simpa[LL] using lb
  simp only[raw,LD]at t ⊢;generalize LL a=as',LL b=bs at*;cases as' with
  | nil =>
   cases bs with
   | nil=>simp -implicitDefEqProofs[f85,t,ae.view,most]
   | cons y ys =>
    simp only[List.length_cons]at l2;have m1:(ys.length+1)*4<=1099511627776:=by omega
    have m2:ys.length+1<=1099511627776:=by omega
    simp -implicitDefEqProofs[f85,t,ae.view,most,m1,m2]
  | cons x xs =>
   simp only[List.length_cons]at l1;have m3:(xs.length+1)*4<=1099511627776:=by omega
   have m4:xs.length+1<=1099511627776:=by omega
   cases bs with
   | nil=>simp -implicitDefEqProofs[f85,t,ae.view,most,m3,m4]
   | cons y ys =>
    simp only[List.length_cons]at l2;have m1:(ys.length+1)*4<=1099511627776:=by omega
    have m2:ys.length+1<=1099511627776:=by omega
    simp -implicitDefEqProofs[f85,t,ae.view,most,m1,m2,m3,m4]
theorem il (x:Rat)(hx:qz x<=1000000):Ca E0 85 [.d (qD x)] (.d (qD x),none):=by
 have h:=RV (qs x) (qn x) (qd x) (Nat.le_trans (RG x) hx) (Nat.le_trans (RH x) hx) (Fx x) (Fy x);unfold RU at h;rw[rY,if_pos rfl]at h;exact h
theorem zR (n:Nat)(x:Rat):CL E0 (n+40) 88 [.d (qD x)] []=some (.d (LD (enc x.den)),none):=by
 rw[ak rfl (k88:E0.fn _=_) rfl];have hd:=x.den_nz;unfold qD qd
 by_cases h:x.den=1
 ·rw[if_pos h,h,Aw];simp only[raw,LD];generalize LL (qn x)=ns,qs x=s at*;simp only[LL,List.map_nil];simp -implicitDefEqProofs[f88,ae.view]
 ·rw[if_neg h];have hne:¬ LL (enc x.den)=[]:=by simp[LL,dR,hd]
  simp only[raw,LD];generalize LL (qn x)=ns,LL (enc x.den)=ds,qs x=s at*;simp -implicitDefEqProofs[f88,hne]
theorem AR {s:Bool}{n d:Nat}(ln:sz n<=1000000)(ld:sz d<=1000000)(hd0:0<d):Ca E0 89 [.d (.v (.bool s)),.d (LD (enc n)),.d (LD (enc d))] (.d (qD (vk s n d)),none):=by
 unfold qD qn qd;rw[AB hd0,r9 hd0,rZ hd0];rcases Nat.eq_zero_or_pos n with rfl|hn0
 ·have e2:d / Nat.gcd 0 d=1:=by rw[Nat.gcd_zero_left];exact Nat.div_self hd0
  rw[e2];refine Ca.bO (n:=60) ?_;rw[ak rfl (k89:E0.fn _=_) rfl];simp only[raw,Nat.zero_div,dn,if_true,LD,LL,List.map_nil];generalize List.map (fun(x:Nat)=>D.v (Value.int IntKind.u32 (x:Int))) (enc d)=ds at*;simp -implicitDefEqProofs[f89]
 ·rw[if_neg (by omega)];have hg:0<Nat.gcd n d:=Nat.gcd_pos_of_pos_right n hd0;have lg:sz (Nat.gcd n d)<=1000000:=Nat.le_trans (oF (Nat.le_of_dvd hd0 (Nat.gcd_dvd_right n d))) ld;obtain⟨Kq,_,c1,c3,c4⟩:=((AQ n d ln ld).j ((xG n (Nat.gcd n d) hg ln lg).j ((xG d (Nat.gcd n d) hg ld lg).any))).at 0;generalize Kq=N at*;have hln:¬ LL (enc n)=[]:=by
   have:¬ n=0:=by omega
   simp[LL,dR,this]
  have o1:=fun m=>AO m (enc (d / Nat.gcd n d))
  have e1:decide (enc (d / Nat.gcd n d)=[1])=decide (d / Nat.gcd n d=1):=by simp[zQ]
  rw[e1]at o1;generalize Nat.gcd n d=g at*;refine Ca.bO (n:=N+80) ?_;rw[ak rfl (k89:E0.fn _=_) rfl]
  by_cases hd1:d / g=1
  ·rw[if_pos hd1];rw[decide_eq_true hd1]at o1;generalize d / g=dd,n / g=nn,n % g=m1,d % g=m2 at*;simp only[raw,LD]at c1 c3 c4 o1 ⊢;generalize LL (enc n)=ns,LL (enc d)=ds,LL (enc g)=gs at*;generalize LL (enc nn)=q1,LL (enc dd)=q2,LL (enc m1)=x1,LL (enc m2)=x2 at*;simp only[LL,List.map_nil];simp -implicitDefEqProofs[f89,o1,c1,c3,c4,hln]
  ·rw[if_neg hd1];rw[decide_eq_false hd1]at o1;generalize d / g=dd,n / g=nn,n % g=m1,d % g=m2 at*;simp only[raw,LD]at c1 c3 c4 o1 ⊢;generalize LL (enc n)=ns,LL (enc d)=ds,LL (enc g)=gs at*;generalize LL (enc nn)=q1,LL (enc dd)=q2,LL (enc m1)=x1,LL (enc m2)=x2 at*;simp -implicitDefEqProofs[f89,o1,c1,c3,c4,hln]
theorem mf (x:Rat)(hx:qz x<=1000000):Ca E0 98 [.d (qD x)] (.d (.v (.int .i64 x.num.sign)),none):=by
 obtain⟨N,t⟩:=(il x hx).get;refine Ca.bO (n:=N+60) ?_;rw[ak rfl (k98:E0.fn _=_) rfl];simp only[qD,raw,LD]at*;have hs:(LL (qn x)=[]/\qs x=false/\x.num.sign=0)\/(LL (qn x)≠[]/\qs x=true/\x.num.sign=-1)\/((∃ m,(LL (qn x)).length=m+1)/\qs x=false/\x.num.sign=1):=by
  have hnil:LL (qn x)=[]↔x.num.natAbs=0:=by simp only[LL,List.map_eq_nil_iff];exact dR
  rw[Ne,hnil];rcases Int.lt_trichotomy x.num 0 with h|h|h
  ·exact .inr (.inl ⟨by omega,decide_eq_true h,Int.sign_eq_neg_one_of_neg h⟩)
  ·exact .inl ⟨by omega,decide_eq_false (by omega),by rw[h];rfl⟩
  ·refine .inr (.inr ⟨?_,decide_eq_false (by omega),Int.sign_eq_one_of_pos h⟩);cases hl:LL (qn x) with
   | nil=>rw[hnil]at hl;omega
   | cons y r=>exact⟨r.length,rfl⟩
 generalize LL (qn x)=z1,LL (qd x)=z3,qs x=s at*;rcases hs with ⟨a,b,c⟩|⟨a,b,c⟩|⟨⟨m,a⟩,b,c⟩
 ·rw[c];subst a;subst b;simp -implicitDefEqProofs[f98,t]
 ·rw[c];subst b;simp -implicitDefEqProofs[f98,t,a]
 ·have hm:(0:Int)<(m:Int)+1:=by omega
  rw[c];subst b;simp -implicitDefEqProofs[f98,t,a,hm]
theorem aau (x:Rat):qD (-x)=raw (if x.num.natAbs=0 then false else !qs x) (qn x) (qd x):=by
 unfold qD qn qd qs;rw[Rat.neg_num,Rat.neg_den,Int.natAbs_neg]
 congr 1
 rcases Int.lt_trichotomy x.num 0 with h|h|h
 ·rw[if_neg (by omega),decide_eq_true h,decide_eq_false (by omega)];rfl
 ·rw[if_pos (by omega),decide_eq_false (by omega)]
 ·rw[if_neg (by omega),decide_eq_false (show ¬ x.num<0 by omega),decide_eq_true (by omega)];rfl
theorem WS (x:Rat)(hx:qz x<=1000000):Ca E0 95 [.d (qD x)] (.d (qD (-x)),none):=by
 obtain⟨N,t⟩:=(il x hx).get;refine Ca.bO (n:=N+60) ?_;rw[ak rfl (k95:E0.fn _=_) rfl];rw[aau];have hnil:LL (qn x)=[]↔x.num.natAbs=0:=by simp only[LL,List.map_eq_nil_iff];exact dR
 simp only[qD,raw,LD]at*;generalize LL (qd x)=z3,qs x=s at*;cases hl:LL (qn x) with
 | nil =>
  rw[if_pos (hnil.1 hl)];rw[hl]at t;simp -implicitDefEqProofs[f95,t]
 | cons y r =>
  have:¬ x.num.natAbs=0:=by rw[<-hnil,hl];simp
  rw[if_neg this];rw[hl]at t;have hm:(0:Int)<(r.length:Int)+1:=by omega
  simp -implicitDefEqProofs[f95,t,hm]
theorem mh {a b:Nat}(ha:sz a<=1000000)(hb:sz b<=1000000):Ca E0 87 [.d (LD (enc a)),.d (LD (enc b))] (.d (LD (enc (a*b))),none):=by
 unfold sz at ha hb;have:=OA (enc a) (enc b) (by omega) (by omega) (aQ _) (aQ _);simpa only[aT] using this
theorem OD {a b:Nat}(ha:sz a<=1000000)(hb:sz b<=1000000):Ca E0 90 [.d (LD (enc a)),.d (LD (enc b))] (.d (LD (enc (a+b))),none):=by
 unfold sz at ha hb;have:=AP (enc a) (enc b) (by omega) (by omega) (aQ _) (aQ _);simpa only[aT] using this
theorem AU {a b:Nat}(ha:sz a<=1000000)(hb:b<=a):Ca E0 92 [.d (LD (enc a)),.d (LD (enc b))] (.d (LD (enc (a-b))),none):=by
 unfold sz at ha;have:=Ea (enc a) (enc b) (by omega) (bI hb) (aQ _) (aQ _) (by simpa only[aT] using hb);simpa only[aT] using this
theorem FH (x y:Rat)(hx:qz x<=100000)(hy:qz y<=100000):Ca E0 57 [.d (qD x),.d (qD y)] (.d (qD (x*y)),none):=by
 obtain⟨k1,t1⟩:=(il x (by omega)).any;obtain⟨k2,t2⟩:=(il y (by omega)).any;have hx1:sz x.num.natAbs<=100000:=Nat.le_trans (Nat.le_max_left _ _) hx;have hx2:sz x.den<=100000:=Nat.le_trans (Nat.le_max_right _ _) hx;have hy1:sz y.num.natAbs<=100000:=Nat.le_trans (Nat.le_max_left _ _) hy;have hy2:sz y.den<=100000:=Nat.le_trans (Nat.le_max_right _ _) hy;have b1:=eP x.num.natAbs y.num.natAbs;have b2:=eP x.den y.den;obtain⟨k3,t3⟩:=(mh (a:=x.num.natAbs) (b:=y.num.natAbs) (by omega) (by omega)).any;obtain⟨k4,t4⟩:=(mh (a:=x.den) (b:=y.den) (by omega) (by omega)).any;obtain⟨k5,t5⟩:=(AR (s:=qs x != qs y) (n:=x.num.natAbs*y.num.natAbs) (d:=x.den*y.den) (by omega) (by omega) (Nat.mul_pos (den_pos x) (den_pos y))).any;rw[MU]at t5;have d1:=fun m=>zR m x
 have d2:=fun m=>zR m y
 replace t1:=t1 (k1+k2+k3+k4+k5) (by omega);replace t2:=t2 (k1+k2+k3+k4+k5) (by omega);replace t3:=t3 (k1+k2+k3+k4+k5) (by omega);replace t4:=t4 (k1+k2+k3+k4+k5) (by omega);replace t5:=t5 (k1+k2+k3+k4+k5) (by omega);generalize k1+k2+k3+k4+k5=N at*;refine Ca.bO (n:=N+80) ?_;rw[ak rfl (k57:E0.fn _=_) rfl];have n1:enc x.num.natAbs=qn x:=rfl;have n2:enc y.num.natAbs=qn y:=rfl;rw[n1,n2]at t3;generalize x.num.natAbs*y.num.natAbs=n,x.den*y.den=d at*;simp only[qD,raw,LD]at*;generalize qs x=s1,qs y=s2,LL (enc x.den)=x3,LL (enc y.den)=x4,LL (qn x)=z1,LL (qn y)=z2,LL (qd x)=z3,LL (qd y)=z4,LL (enc n)=x7,LL (enc d)=x8,LL (qn (x*y))=x9,LL (qd (x*y))=y1,qs (x*y)=sg at*;simp only[bne]at t5;simp -implicitDefEqProofs[f57,t1,t2,t3,t4,t5,d1,d2]
theorem zS (x y:Rat)(hx:qz x<=100000)(hy:qz y<=100000):Ca E0 54 [.d (qD x),.d (qD y)] (.d (qD (x+y)),none):=by
 obtain⟨k1,t1⟩:=(il x (by omega)).any;obtain⟨k2,t2⟩:=(il y (by omega)).any;have hx1:sz x.num.natAbs<=100000:=Nat.le_trans (Nat.le_max_left _ _) hx;have hx2:sz x.den<=100000:=Nat.le_trans (Nat.le_max_right _ _) hx;have hy1:sz y.num.natAbs<=100000:=Nat.le_trans (Nat.le_max_left _ _) hy;have hy2:sz y.den<=100000:=Nat.le_trans (Nat.le_max_right _ _) hy;have b1:=eP x.num.natAbs y.den;have b2:=eP y.num.natAbs x.den;have b3:=eP x.den y.den;have b4:=@vz (qs x) (qs y) (x.num.natAbs*y.den) (y.num.natAbs*x.den);have d1:=fun m=>zR m x
 have d2:=fun m=>zR m y
 obtain⟨k3,t3⟩:=(mh (a:=x.num.natAbs) (b:=y.den) (by omega) (by omega)).any;obtain⟨k4,t4⟩:=(mh (a:=y.num.natAbs) (b:=x.den) (by omega) (by omega)).any;obtain⟨k5,t5⟩:=(mh (a:=x.den) (b:=y.den) (by omega) (by omega)).any;obtain⟨k6,t6⟩:=(AR (s:=oG (qs x) (x.num.natAbs*y.den) (qs y) (y.num.natAbs*x.den)) (n:=nD (qs x) (x.num.natAbs*y.den) (qs y) (y.num.natAbs*x.den)) (d:=x.den*y.den) (by omega) (by omega) (Nat.mul_pos (den_pos x) (den_pos y))).any;rw[FB]at t6;have n1:enc x.num.natAbs=qn x:=rfl;have n2:enc y.num.natAbs=qn y:=rfl;rw[n1]at t3;rw[n2]at t4;generalize x.num.natAbs*y.den=a,y.num.natAbs*x.den=b,x.den*y.den=d at*;obtain⟨k7,t7⟩:=(OD (a:=a) (b:=b) (by omega) (by omega)).any;obtain⟨k8,t8⟩:=(MX a b (by omega) (by omega)).any
 by_cases hs:qs x=qs y
 ·have e1:oG (qs x) a (qs y) b=qs x:=by unfold oG;rw[if_pos hs]
  have e2:nD (qs x) a (qs y) b=a+b:=by unfold nD;rw[if_pos hs]
  rw[e1,e2]at t6;have hbq:(qs x==qs y)=true:=by simpa using hs
  replace t1:=t1 (k1+k2+k3+k4+k5+k6+k7) (by omega);replace t2:=t2 (k1+k2+k3+k4+k5+k6+k7) (by omega);replace t3:=t3 (k1+k2+k3+k4+k5+k6+k7) (by omega);replace t4:=t4 (k1+k2+k3+k4+k5+k6+k7) (by omega);replace t5:=t5 (k1+k2+k3+k4+k5+k6+k7) (by omega);replace t6:=t6 (k1+k2+k3+k4+k5+k6+k7) (by omega);replace t7:=t7 (k1+k2+k3+k4+k5+k6+k7) (by omega);generalize k1+k2+k3+k4+k5+k6+k7=N at*;refine Ca.bO (n:=N+90) ?_;rw[ak rfl (k54:E0.fn _=_) rfl];simp only[qD,raw,LD]at*;generalize qs (x+y)=sg,qs x=s1,qs y=s2,LL (enc x.den)=x3,LL (enc y.den)=x4,LL (qn (x+y))=x9,LL (qd (x+y))=y1,LL (qn x)=z1,LL (qn y)=z2,LL (qd x)=z3,LL (qd y)=z4,LL (enc (a+b))=x5,LL (enc a)=x6,LL (enc b)=x7,LL (enc d)=x8 at*;simp -implicitDefEqProofs[f54,t1,t2,t3,t4,t5,t6,t7,d1,d2,hbq]
 ·have hbq:(qs x==qs y)=false:=by simpa using hs
  by_cases hab:b<=a
  ·obtain⟨k9,t9⟩:=(AU (a:=a) (b:=b) (by omega) hab).any;have e1:oG (qs x) a (qs y) b=qs x:=by unfold oG;rw[if_neg hs,if_pos hab]
   have e2:nD (qs x) a (qs y) b=a-b:=by unfold nD;rw[if_neg hs,if_pos hab]
   rw[e1,e2]at t6;have hc:(0:Int)<=dL a b:=by unfold dL;rw[if_neg (by omega)];split<;>omega
   replace t1:=t1 (k1+k2+k3+k4+k5+k6+k8+k9) (by omega);replace t2:=t2 (k1+k2+k3+k4+k5+k6+k8+k9) (by omega);replace t3:=t3 (k1+k2+k3+k4+k5+k6+k8+k9) (by omega);replace t4:=t4 (k1+k2+k3+k4+k5+k6+k8+k9) (by omega);replace t5:=t5 (k1+k2+k3+k4+k5+k6+k8+k9) (by omega);replace t6:=t6 (k1+k2+k3+k4+k5+k6+k8+k9) (by omega);replace t8:=t8 (k1+k2+k3+k4+k5+k6+k8+k9) (by omega);replace t9:=t9 (k1+k2+k3+k4+k5+k6+k8+k9) (by omega);generalize k1+k2+k3+k4+k5+k6+k8+k9=N at*;refine Ca.bO (n:=N+90) ?_;rw[ak rfl (k54:E0.fn _=_) rfl];simp only[qD,raw,LD]at*;generalize dL a b=cc,qs (x+y)=sg,qs x=s1,qs y=s2,LL (enc x.den)=x3,LL (enc y.den)=x4,LL (qn (x+y))=x9,LL (qd (x+y))=y1,LL (qn x)=z1,LL (qn y)=z2,LL (qd x)=z3,LL (qd y)=z4,LL (enc (a-b))=x5,LL (enc a)=x6,LL (enc b)=x7,LL (enc d)=x8 at*;simp -implicitDefEqProofs[f54,t1,t2,t3,t4,t5,t6,t8,t9,d1,d2,hbq,hc]
  ·obtain⟨k9,t9⟩:=(AU (a:=b) (b:=a) (by omega) (by omega)).any;have e1:oG (qs x) a (qs y) b=qs y:=by unfold oG;rw[if_neg hs,if_neg hab]
   have e2:nD (qs x) a (qs y) b=b-a:=by unfold nD;rw[if_neg hs,if_neg hab]
   rw[e1,e2]at t6;have hc:dL a b=-1:=by unfold dL;rw[if_pos (by omega)]
   rw[hc]at t8;replace t1:=t1 (k1+k2+k3+k4+k5+k6+k8+k9) (by omega);replace t2:=t2 (k1+k2+k3+k4+k5+k6+k8+k9) (by omega);replace t3:=t3 (k1+k2+k3+k4+k5+k6+k8+k9) (by omega);replace t4:=t4 (k1+k2+k3+k4+k5+k6+k8+k9) (by omega);replace t5:=t5 (k1+k2+k3+k4+k5+k6+k8+k9) (by omega);replace t6:=t6 (k1+k2+k3+k4+k5+k6+k8+k9) (by omega);replace t8:=t8 (k1+k2+k3+k4+k5+k6+k8+k9) (by omega);replace t9:=t9 (k1+k2+k3+k4+k5+k6+k8+k9) (by omega);generalize k1+k2+k3+k4+k5+k6+k8+k9=N at*;refine Ca.bO (n:=N+90) ?_;rw[ak rfl (k54:E0.fn _=_) rfl];simp only[qD,raw,LD]at*;generalize qs (x+y)=sg,qs x=s1,qs y=s2,LL (enc x.den)=x3,LL (enc y.den)=x4,LL (qn (x+y))=x9,LL (qd (x+y))=y1,LL (qn x)=z1,LL (qn y)=z2,LL (qd x)=z3,LL (qd y)=z4,LL (enc (b-a))=x5,LL (enc a)=x6,LL (enc b)=x7,LL (enc d)=x8 at*;simp -implicitDefEqProofs[f54,t1,t2,t3,t4,t5,t6,t8,t9,d1,d2,hbq]
def LK (k:IntKind)(l:List Int):List D:=l.map fun x=>D.v (.int k x)
def seB:aH:=f70.body.r.r.l.r.bl.lp
def VL (ki:IntKind)(a b:List Int)(k:Nat)(t:FV):St:=(st0 [.d ((.s 1 (LK ki a))),.d ((.s 1 (LK ki b))),.u,.u,.u,.d (.v (.int .i64 a.length)),.d (.v (.int .i64 k)),t,.u] [])
def seF:St:=(st0 [.u,.u,.d (.v (.bool false)),.u,.u,.u,.u,.u,.u] [])
theorem KA (ki:IntKind)(a b:List Int)(k:Nat)(x y:Int)(la:a.length<=1000000000)(hx:a[k]?=some x)(hy:b[k]?=some y) :
  EX E0 60 seB (VL ki a b k .u)=if x=y then some (.norm,VL ki a b (k+1) .u) else some (.ret,seF):=by
 have hk:=(bH hx)
 have hx':(LK ki a)[k]?=some (.v (.int ki x)):=by simp[LK,hx]
 have hy':(LK ki b)[k]?=some (.v (.int ki y)):=by simp[LK,hy]
 have hx2:=idx hx';have hy2:=idx hy';have bD:ah .i64 ((k:Int)+1)=(k:Int)+1:=wrap_i64 (by omega);have hk1:((k+1:Nat):Int)=(k:Int)+1:=by omega
 have hk0:(0:Int)<=(k:Int):=by omega
 unfold VL seF;rw[hk1];generalize LK ki a=as',LK ki b=bs' at*
 by_cases h:x=y
 ·subst h;simp -implicitDefEqProofs[seB,f70,hk,hk0,hx',hx2,hy',hy2,bD]
 ·have hne:(x != y)=true:=by simpa using h
  rw[if_neg h];simp -implicitDefEqProofs[seB,f70,hk,hk0,hx',hx2,hy',hy2,hne]
theorem OE (ki:IntKind)(a b:List Int)(la:a.length<=1000000000)(hl:a.length=b.length) :
  ∃ r,Ex E0 (.loop seB) (VL ki a b 0 .u) r/\((a=b/\r=(.exit 0,VL ki a b a.length (.d (.v (.bool false)))))\/(a≠b/\r=(.ret,seF))):=by
 refine Ex.inv (S:=fun k:Nat=>VL ki a b k .u) (fun k=>a.length-k) (fun k=>k<=a.length/\a.take k=b.take k) _ ?_ 0 ⟨by omega,by simp⟩;rintro k ⟨h1,h2⟩
 by_cases hk:k<a.length
 ·have hx:a[k]?=some (a[k]'hk):=List.getElem?_eq_getElem hk;have hy:b[k]?=some (b[k]'(by omega)):=List.getElem?_eq_getElem (by omega);have hr:=KA ki a b k _ _ la hx hy
  by_cases h:a[k]'hk=b[k]'(by omega)
  ·rw[if_pos h]at hr;refine .inl ⟨k+1,Ex.of hr,by omega,by omega,?_⟩;rw[List.take_succ_eq_append_getElem hk,List.take_succ_eq_append_getElem (by omega),h2,h]
  ·rw[if_neg h]at hr;refine .inr ⟨_,Ex.of hr,by simp,.inr ⟨?_,rfl⟩⟩;intro he;subst he;exact h rfl
 ·have he:k=a.length:=by omega
  subst he;rw[List.take_length,hl,List.take_length]at h2;refine .inr ⟨_,Ex.of (n:=60) ?_,?_,.inl ⟨h2,rfl⟩⟩
  ·unfold VL;simp -implicitDefEqProofs[seB,f70]
  ·simp
theorem HY (ki:IntKind)(a b:List Int)(la:a.length<=1000000000)(lb:b.length<=1000000000):Ca E0 70 [.d ((.s 1 (LK ki a))),.d ((.s 1 (LK ki b)))] (.d (.v (.bool (decide (a=b)))),none):=by
 have hla:(LK ki a).length=a.length:=by simp[LK]
 have hlb:(LK ki b).length=b.length:=by simp[LK]
 by_cases hl:a.length=b.length
 ·obtain⟨r,hr,h⟩:=OE ki a b la hl;have aaw:(LK ki b).length=a.length:=by omega
  have RX:Ex E0 f70.body.l (st0 [.d ((.s 1 (LK ki a))),.d ((.s 1 (LK ki b))),.u,.u,.u,.u,.u,.u,.u] []) (.norm,(st0 [.d ((.s 1 (LK ki a))),.d ((.s 1 (LK ki b))),.u,.u,.u,.u,.u,.u,.u] [])):=by
   refine Ex.of (n:=40) ?_;simp -implicitDefEqProofs[f70]
  have RY:Ex E0 f70.body.r.l (st0 [.d ((.s 1 (LK ki a))),.d ((.s 1 (LK ki b))),.u,.u,.u,.u,.u,.u,.u] []) (.norm,(st0 [.d ((.s 1 (LK ki a))),.d ((.s 1 (LK ki b))),.u,.u,.d (.v (.bool false)),.u,.u,.u,.u] [])):=by
   refine Ex.of (n:=40) ?_;simp -implicitDefEqProofs[f70,hla,aaw]
  have RZ:Ex E0 f70.body.r.r.l.l (st0 [.d ((.s 1 (LK ki a))),.d ((.s 1 (LK ki b))),.u,.u,.d (.v (.bool false)),.u,.u,.u,.u] []) (.norm,VL ki a b 0 .u):=by
   refine Ex.of (n:=40) ?_;unfold VL;simp -implicitDefEqProofs[f70,hla]
  rcases h with ⟨he,rfl⟩|⟨he,rfl⟩
  ·have hd:decide (a=b)=true:=by simpa using he
   rw[hd];refine Ca.body (o:=.ret) (st1:=(st0 [.u,.u,.d (.v (.bool true)),.u,.u,.u,.u,.u,.u] [])) rfl (k70:E0.fn _=_) rfl ?_ (by intro id h;cases h) ?_
   ·show Ex E0 (.seq f70.body.l (.seq f70.body.r.l (.seq (.seq f70.body.r.r.l.l (.block 0 (.loop seB))) f70.body.r.r.r))) _ _;refine RX.seq (RY.seq ((RZ.seq hr.block).seq (Ex.of (n:=40) ?_)));unfold VL;simp -implicitDefEqProofs[f70]
   ·simp -implicitDefEqProofs[f70]
  ·have hd:decide (a=b)=false:=by simpa using he
   rw[hd];refine Ca.body (o:=.ret) (st1:=seF) rfl (k70:E0.fn _=_) rfl ?_ (by intro id h;cases h) ?_
   ·show Ex E0 (.seq f70.body.l (.seq f70.body.r.l (.seq (.seq f70.body.r.r.l.l (.block 0 (.loop seB))) f70.body.r.r.r))) _ _;exact RX.seq (RY.seq (Ex.dI (RZ.seq hr.cO)))
   ·simp -implicitDefEqProofs[f70,seF]
 ·have hd:decide (a=b)=false:=by
   simp only[decide_eq_false_iff_not];intro he;subst he;exact hl rfl
  have hne:((a.length:Int) != (b.length:Int))=true:=by simp;omega
  rw[hd];refine Ca.bO (n:=60) ?_;rw[ak rfl (k70:E0.fn _=_) rfl];generalize LK ki a=as',LK ki b=bs' at*;simp -implicitDefEqProofs[f70,hla,hlb,hne]
theorem HZ (l:List Nat):LL l=LK .u32 (l.map fun(x:Nat)=>(x:Int)):=by simp[LL,LK]
theorem oI {a b:List Nat}:(a.map fun(x:Nat)=>(x:Int))=(b.map fun(x:Nat)=>(x:Int))↔a=b:=by
 constructor
 ·intro h;exact(List.map_inj_right (fun x y h=>by exact_mod_cast h)).1 h
 ·rintro rfl;rfl
theorem MZ (a b:List Nat)(la:a.length<=1000000000)(lb:b.length<=1000000000):Ca E0 101 [.d (LD a),.d (LD b)] (.d (.v (.bool (decide (a=b)))),none):=by
 have h:=HY .u32 (a.map fun(x:Nat)=>(x:Int)) (b.map fun(x:Nat)=>(x:Int)) (by simpa using la) (by simpa using lb);have e:decide ((a.map fun(x:Nat)=>(x:Int))=(b.map fun(x:Nat)=>(x:Int)))=decide (a=b):=by simp only[oI]
 rw[e]at h;simp only[LD,HZ];exact Ca.same ((k101:E0.fn _=_).trans (k70:E0.fn _=_).symm) rfl rfl h
theorem AV (s1 s2:Bool)(a1 b1 a2 b2:List Nat)(h1:a1.length<=1000000000)(h2:b1.length<=1000000000)(h3:a2.length<=1000000000)(h4:b2.length<=1000000000) :
  Ca E0 72 [.d (raw s1 a1 b1),.d (raw s2 a2 b2)] (.d (.v (.bool (s1==s2&&decide (a1=a2)&&decide (b1=b2)))),none):=by
 obtain⟨Kq,_,t1,t2⟩:=((MZ a1 a2 h1 h3).j ((MZ b1 b2 h2 h4).any)).at 0;generalize Kq=N at*;refine Ca.bO (n:=N+60) ?_;rw[ak rfl (k72:E0.fn _=_) rfl];generalize decide (a1=a2)=p,decide (b1=b2)=q at*;simp only[raw,LD]at*;generalize LL a1=x1,LL a2=x2,LL b1=y1,LL b2=y2 at*;cases s1<;>cases s2<;>cases p<;>simp -implicitDefEqProofs[f72,t1,t2]
def KC:aH:=f78.body.r.r.l.r.bl.lp
def Dx (a b:List Nat)(k:Nat)(t:FV):St:=(st0 [.d (LD a),.d (LD b),.u,.d (.v (.int .i64 k)),.u,t,.u] [])
def R3:St:=(st0 [.u,.u,.d (.v (.bool false)),.u,.u,.u,.u] [])
theorem KD (a b:List Nat)(k x y:Nat)(la:a.length<=1000000000)(hx:a[k]?=some x)(hy:b[k]?=some y) :
  EX E0 60 KC (Dx a b k .u)=if x=y then some (.norm,Dx a b (k+1) .u) else some (.ret,R3):=by
 have hk:=(bH hx)
 have hla:(LL a).length=a.length:=by simp[LL]
 have hx':(LL a)[k]?=some (.v (.int .u32 (x:Int))):=by simp[LL,hx]
 have hy':(LL b)[k]?=some (.v (.int .u32 (y:Int))):=by simp[LL,hy]
 have hx2:=idx hx';have hy2:=idx hy';have bD:ah .i64 ((k:Int)+1)=(k:Int)+1:=wrap_i64 (by omega);have hk1:((k+1:Nat):Int)=(k:Int)+1:=by omega
 have hk0:(0:Int)<=(k:Int):=by omega
 have hkb:k<(LL b).length:=by simpa[LL] using(bH hy)
 unfold Dx R3;rw[hk1];simp only[LD];generalize LL a=as',LL b=bs' at*
 by_cases h:x=y
 ·subst h;simp -implicitDefEqProofs[KC,f78,hla,hk,hk0,hkb,hx',hx2,hy',hy2,bD]
 ·have hne:((x:Int) != (y:Int))=true:=by simp;omega
  rw[if_neg h];simp -implicitDefEqProofs[KC,f78,hla,hk,hk0,hkb,hx',hx2,hy',hy2,hne]
theorem OG (a b:List Nat)(la:a.length<=1000000000)(hl:a.length=b.length) :
  ∃ r,Ex E0 (.loop KC) (Dx a b 0 .u) r/\((a=b/\r=(.exit 0,Dx a b a.length (.d (.v (.bool false)))))\/(a≠b/\r=(.ret,R3))):=by
 refine Ex.inv (S:=fun k:Nat=>Dx a b k .u) (fun k=>a.length-k) (fun k=>k<=a.length/\a.take k=b.take k) _ ?_ 0 ⟨by omega,by simp⟩;rintro k ⟨h1,h2⟩
 by_cases hk:k<a.length
 ·have hx:a[k]?=some (a[k]'hk):=List.getElem?_eq_getElem hk;have hy:b[k]?=some (b[k]'(by omega)):=List.getElem?_eq_getElem (by omega);have hr:=KD a b k _ _ la hx hy
  by_cases h:a[k]'hk=b[k]'(by omega)
  ·rw[if_pos h]at hr;refine .inl ⟨k+1,Ex.of hr,by omega,by omega,?_⟩;rw[List.take_succ_eq_append_getElem hk,List.take_succ_eq_append_getElem (by omega),h2,h]
  ·rw[if_neg h]at hr;refine .inr ⟨_,Ex.of hr,by simp,.inr ⟨?_,rfl⟩⟩;intro he;subst he;exact h rfl
 ·have he:k=a.length:=by omega
  subst he;have hla:(LL a).length=a.length:=by simp[LL]
  rw[List.take_length,hl,List.take_length]at h2;refine .inr ⟨_,Ex.of (n:=60) ?_,?_,.inl ⟨h2,rfl⟩⟩
  ·unfold Dx;simp only[LD];generalize LL a=as' at*;generalize LL b=bs' at*;generalize a.length=m at*;simp -implicitDefEqProofs[KC,f78,hla]
  ·simp
theorem M0 (a b:List Nat)(la:a.length<=1000000000)(lb:b.length<=1000000000):Ca E0 78 [.d (LD a),.d (LD b)] (.d (.v (.bool (decide (a=b)))),none):=by
 have hla:(LL a).length=a.length:=by simp[LL]
 have hlb:(LL b).length=b.length:=by simp[LL]
 by_cases hl:a.length=b.length
 ·obtain⟨r,hr,h⟩:=OG a b la hl;have aaw:(LL b).length=a.length:=by omega
  have RX:Ex E0 f78.body.l (st0 [.d (LD a),.d (LD b),.u,.u,.u,.u,.u] []) (.norm,(st0 [.d (LD a),.d (LD b),.u,.u,.u,.u,.u] [])):=by
   refine Ex.of (n:=40) ?_;simp -implicitDefEqProofs[f78]
  have RY:Ex E0 f78.body.r.l (st0 [.d (LD a),.d (LD b),.u,.u,.u,.u,.u] []) (.norm,(st0 [.d (LD a),.d (LD b),.u,.u,.d (.v (.bool false)),.u,.u] [])):=by
   refine Ex.of (n:=40) ?_;simp -implicitDefEqProofs[f78,LD,hla,aaw]
  have RZ:Ex E0 f78.body.r.r.l.l (st0 [.d (LD a),.d (LD b),.u,.u,.d (.v (.bool false)),.u,.u] []) (.norm,Dx a b 0 .u):=by
   refine Ex.of (n:=40) ?_;unfold Dx;simp -implicitDefEqProofs[f78,LD,hla]
  rcases h with ⟨he,rfl⟩|⟨he,rfl⟩
  ·have hd:decide (a=b)=true:=by simpa using he
   rw[hd];refine Ca.body (o:=.ret) (st1:=(st0 [.u,.u,.d (.v (.bool true)),.u,.u,.u,.u] [])) rfl (k78:E0.fn _=_) rfl ?_ (by intro id h;cases h) ?_
   ·show Ex E0 (.seq f78.body.l (.seq f78.body.r.l (.seq (.seq f78.body.r.r.l.l (.block 0 (.loop KC))) f78.body.r.r.r))) _ _;refine RX.seq (RY.seq ((RZ.seq hr.block).seq (Ex.of (n:=40) ?_)));unfold Dx;simp -implicitDefEqProofs[f78]
   ·simp -implicitDefEqProofs[f78]
  ·have hd:decide (a=b)=false:=by simpa using he
   rw[hd];refine Ca.body (o:=.ret) (st1:=R3) rfl (k78:E0.fn _=_) rfl ?_ (by intro id h;cases h) ?_
   ·show Ex E0 (.seq f78.body.l (.seq f78.body.r.l (.seq (.seq f78.body.r.r.l.l (.block 0 (.loop KC))) f78.body.r.r.r))) _ _;exact RX.seq (RY.seq (Ex.dI (RZ.seq hr.cO)))
   ·simp -implicitDefEqProofs[f78,R3]
 ·have hd:decide (a=b)=false:=by
   simp only[decide_eq_false_iff_not];intro he;subst he;exact hl rfl
  have hne:((a.length:Int) != (b.length:Int))=true:=by simp;omega
  rw[hd];refine Ca.bO (n:=60) ?_;rw[ak rfl (k78:E0.fn _=_) rfl];simp only[LD];generalize LL a=as',LL b=bs' at*;simp -implicitDefEqProofs[f78,hla,hlb,hne]
theorem mi (s1 s2:Bool)(a1 b1 a2 b2:List Nat)(h1:a1.length<=1000000000)(h2:b1.length<=1000000000)(h3:a2.length<=1000000000)(h4:b2.length<=1000000000) :
  Ca E0 39 [.d (raw s1 a1 b1),.d (raw s2 a2 b2)] (.d (.v (.bool (s1==s2&&decide (a1=a2)&&decide (b1=b2)))),none):=by
 obtain⟨Kq,_,t1,t2⟩:=((M0 a1 a2 h1 h3).j ((M0 b1 b2 h2 h4).any)).at 0;generalize Kq=N at*;refine Ca.bO (n:=N+60) ?_;rw[ak rfl (k39:E0.fn _=_) rfl];generalize decide (a1=a2)=p,decide (b1=b2)=q at*;simp only[raw,LD]at*;generalize LL a1=x1,LL a2=x2,LL b1=y1,LL b2=y2 at*;cases s1<;>cases s2<;>cases p<;>simp -implicitDefEqProofs[f39,t1,t2]
theorem WT (x y:Rat)(hx:qz x<=100000)(hy:qz y<=100000):Ca E0 62 [.d (qD x),.d (qD y)] (.d (qD (x-y)),none):=by
 obtain⟨Kq,_,t1,t2⟩:=((WS y (by omega)).j ((zS x (-y) hx (by rw[aao];omega)).any)).at 0;rw[<-Rat.sub_eq_add_neg]at t2;generalize Kq=N at*;refine Ca.bO (n:=N+60) ?_;rw[ak rfl (k62:E0.fn _=_) rfl];simp only[qD,raw,LD]at*;generalize qs (x-y)=sg,qs (-y)=s3,qs x=s1,qs y=s2,LL (qn (x-y))=x9,LL (qd (x-y))=y1,LL (qn (-y))=x8,LL (qd (-y))=y8,LL (qn x)=z1,LL (qn y)=z2,LL (qd x)=z3,LL (qd y)=z4 at*;simp -implicitDefEqProofs[f62,t1,t2]
theorem H5 (x y:Rat)(hx:qz x<=100000)(hy:qz y<=100000):Ca E0 93 [.d (qD x),.d (qD y)] (.d (.v (.int .i64 (x-y).num.sign)),none):=by
 obtain⟨k1,t1⟩:=(WT x y hx hy).any;have:=RJ x y;obtain⟨k2,t2⟩:=(mf (x-y) (by omega)).any;replace t1:=t1 (k1+k2) (by omega);replace t2:=t2 (k1+k2) (by omega);generalize k1+k2=N at*;refine Ca.bO (n:=N+60) ?_;rw[ak rfl (k93:E0.fn _=_) rfl];generalize (x-y).num.sign=res at*;simp only[qD,raw,LD]at*;generalize qs (x-y)=sg,qs x=s1,qs y=s2,LL (qn (x-y))=x9,LL (qd (x-y))=y1,LL (qn x)=z1,LL (qn y)=z2,LL (qd x)=z3,LL (qd y)=z4 at*;simp -implicitDefEqProofs[f93,t1,t2]
theorem H6 (x y:Rat):((x-y).num.sign<0↔x<y)/\(0<(x-y).num.sign↔y<x):=by
 have h1:=Rat.lt_iff_sub_pos x y;have h2:=Rat.lt_iff_sub_pos y x;have p:∀ z:Rat,0<z↔0<z.num:=by
  intro z;constructor
  ·intro h;have a:=Rat.num_nonneg.2 (Rat.le_of_lt h);have b:z.num≠0:=by
    intro e;rw[Rat.num_eq_zero.1 e]at h;exact absurd h (by decide)
   omega
  ·intro h;have a:=Rat.num_nonneg.1 (show 0<=z.num by omega);have b:z≠0:=by
    intro e;rw[e]at h;exact absurd h (by decide)
   exact Rat.lt_of_le_of_ne a (Ne.symm b)
 have e:(y-x).num=-(x-y).num:=by
  rw[<-Rat.neg_num]
  congr 1
  grind
 rw[p,e]at h1;rw[p]at h2;rw[h1,h2];rcases Int.lt_trichotomy (x-y).num 0 with h|h|h
 ·rw[Int.sign_eq_neg_one_of_neg h];omega
 ·rw[h];simp
 ·rw[Int.sign_eq_one_of_pos h];omega
theorem H7 (x y:Rat)(hx:qz x<=100000)(hy:qz y<=100000):Ca E0 55 [.d (qD x),.d (qD y)] (.d (.v (.bool (decide (x<y)))),none):=by
 obtain⟨N,t⟩:=(H5 x y hx hy).get;have e:decide ((x-y).num.sign<0)=decide (x<y):=by simp only[(H6 x y).1]
 rw[<-e];refine Ca.bO (n:=N+60) ?_;rw[ak rfl (k55:E0.fn _=_) rfl];generalize (x-y).num.sign=res at*;simp only[qD,raw,LD]at*;generalize qs x=s1,qs y=s2,LL (qn x)=z1,LL (qn y)=z2,LL (qd x)=z3,LL (qd y)=z4 at*;simp -implicitDefEqProofs[f55,t]
theorem vG (n:Nat)(v:Int)(hv:-9223372036854775808<=v/\v<9223372036854775808):CL E0 (n+40) 107 [.d (.v (.int .i64 v))] []=some (.d (.v (.int .u64 v.natAbs)),none):=by
 rw[ak rfl (k107:E0.fn _=_) rfl]
 by_cases h:v<0
 ·have w1:ah .i64 (v+1)=v+1:=wrap_i64 (by omega);have w2:IntKind.wrap .i64 (-(v+1))=-(v+1):=by rw[<-b_];exact wrap_i64 (by omega)
  have w3:ah .u64 (-(v+1))=-(v+1):=wrap_u64 (by omega);have w4:ah .u64 (-(v+1)+1)=(v.natAbs:Int):=by rw[wrap_u64 (by omega)];omega
  generalize v.natAbs=va at*;simp -implicitDefEqProofs[f107,h,w1,w2,w3,w4]
 ·have w1:ah .u64 v=(v.natAbs:Int):=by rw[fM];omega
  generalize v.natAbs=va at*;simp -implicitDefEqProofs[f107,h,w1]
theorem AX (v:Nat)(hv:v<18446744073709551616):Ca E0 106 [.d (.v (.int .u64 v))] (.d (LD (enc v)),none):=by
 obtain⟨n0,hc⟩:=(vC [v % 4294967296,v / 4294967296] (by simp)).get;rw[MW hv]at hc;have w2:ah .u32 (v:Int)=((v % 4294967296:Nat):Int):=by rw[dD];omega
 have w3:Int.fdiv (v:Int) 4294967296=((v / 4294967296:Nat):Int):=by
  rw[Int.fdiv_eq_ediv_of_nonneg _ (by omega)];omega
 have w4:ah .u32 ((v / 4294967296:Nat):Int)=((v / 4294967296:Nat):Int):=wrap_u32 (by omega);refine Ca.bO (n:=n0+60) ?_;rw[ak rfl (k106:E0.fn _=_) rfl];simp only[LD,LL,List.map_cons,List.map_nil]at hc ⊢;generalize List.map (fun(x:Nat)=>D.v (Value.int IntKind.u32 (x:Int))) (enc v)=res at*;generalize v / 4294967296=hi,v % 4294967296=lo at*;simp -implicitDefEqProofs[IntKind.bits,f106,w2,w3,w4,hc]
theorem R4 (a b:Int)(ha:-9223372036854775808<=a/\a<9223372036854775808)(hb:-9223372036854775808<=b/\b<9223372036854775808)(h0:b≠0) :
  Ca E0 77 [.d (.v (.int .i64 a)),.d (.v (.int .i64 b))] (.d (.t [qD (qH a b),.v (.int .i64 0)]),none):=by
 have l1:=FD ha;have l2:=FD hb;have a1:=fun m=>vG m a ha
 have a2:=fun m=>vG m b hb
 obtain⟨Kq,_,t1,t2,t3⟩:=((AX a.natAbs (by omega)).j ((AX b.natAbs (by omega)).j ((AR (s:=decide (a<0) != decide (b<0)) (n:=a.natAbs) (d:=b.natAbs) (by omega) (by omega) (by omega)).any))).at 0;have e:vk (decide (a<0) != decide (b<0)) a.natAbs b.natAbs=qH a b:=rfl;rw[e]at t3;generalize Kq=N at*;refine Ca.bO (n:=N+80) ?_;rw[ak rfl (k77:E0.fn _=_) rfl];have hb0:(b==0)=false:=by simpa using h0
 simp only[qD,raw,LD]at*;generalize LL (qn (qH a b))=x9,LL (qd (qH a b))=y1,qs (qH a b)=sg,LL (enc a.natAbs)=x1,LL (enc b.natAbs)=x2 at*;generalize a.natAbs=na,b.natAbs=nb at*;simp only[bne]at t3;simp -implicitDefEqProofs[f77,tN,a1,a2,t1,t2,t3,hb0]
theorem AY (a b:Int)(ha:-9223372036854775808<=a/\a<9223372036854775808)(hb:-9223372036854775808<=b/\b<9223372036854775808)(h0:b≠0) :
  Ca E0 38 [.d (.v (.int .i64 a)),.d (.v (.int .i64 b))] (.d (qD (qH a b)),none):=by
 obtain⟨N,t⟩:=(R4 a b ha hb h0).get;refine Ca.bO (n:=N+80) ?_;rw[ak rfl (k38:E0.fn _=_) rfl];simp only[qD,raw,LD]at*;generalize LL (qn (qH a b))=x9,LL (qd (qH a b))=y1,qs (qH a b)=sg at*;simp -implicitDefEqProofs[f38,tN,t]
end Fi.S
