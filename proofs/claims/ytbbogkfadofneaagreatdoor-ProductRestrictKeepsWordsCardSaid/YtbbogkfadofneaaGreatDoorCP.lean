import Derived.Test.YtbbogkfadofneaaGreatDoorCO
set_option linter.unusedVariables false
set_option linter.unusedSimpArgs false
noncomputable section
namespace Fi.S
open Go Fi
set_option maxHeartbeats 1000000
theorem Qn (a b:fT):iD a b=iD b a:=by simp[iD,Int.add_comm]
theorem Mj (a b c:fT):iD (iD a b) c=iD a (iD b c):=by simp[iD,Int.add_assoc]
theorem Qo {S:Nat}(hS:1<=S){a b:List a_}(ha:PV S a)(hb:PV S b):gz a b=gz b a :=
 PV.ext (gP hS hS ha hb) (gP hS hS hb ha) (fun e=>by rw[jK,jK];grind)
theorem Mk {S:Nat}(hS:1<=S){a b c:List a_}(ha:PV S a)(hb:PV S b)(hc:PV S c):gz (gz a b) c=gz a (gz b c) :=
 PV.ext (gP ae hS (gP hS hS ha hb) hc) (gP hS ae ha (gP hS hS hb hc)) (fun e=>by simp only[jK];grind)
theorem U6 {S:Nat}(hS:1<=S){a:List a_}(ha:PV S a):gz a []=a :=
 PV.ext (gP hS hS ha (PV.nil S)) ha (fun e=>by rw[jK];simp only[tot];grind)
def cv (a:List a_)(f:fT->Rat)(e:fT):Rat:=match a with
 | []=>0
 | p::r=>p.2*f (e.1-p.1.1,e.2.1-p.1.2.1,e.2.2-p.1.2.2)+cv r f e
def Cj (e a:fT):fT:=(e.1-a.1,e.2.1-a.2.1,e.2.2-a.2.2)
theorem Oo (a b e:fT):iD a b=e↔b=Cj e a:=by
 obtain⟨a1,a2,a3⟩:=a;obtain⟨b1,b2,b3⟩:=b;obtain⟨e1,e2,e3⟩:=e;simp only[iD,Cj,Qm2];omega
theorem Fa (p:a_)(e:fT):∀ b:List a_,tot (bU p b) e=p.2*tot b (Cj e p.1)
 | []=>by simp only[bU,Qc1,tot];grind
 | q::r=>by
  have ih:=Fa p e r;have h1:bU p (q::r)=(iD p.1 q.1,p.2*q.2)::bU p r:=rfl;obtain⟨qe,y⟩:=q;rw[h1];simp only[tot,ih]
  by_cases h:iD p.1 qe=e
  ·rw[if_pos h,if_pos ((Oo _ _ _).1 h)];grind
  ·rw[if_neg h,if_neg (fun h2=>h ((Oo _ _ _).2 h2))];grind
theorem gZ (b:List a_)(e:fT):∀ a:List a_,tot (bC a b) e=cv a (tot b) e
 | []=>rfl
 | p::a=>by
  have h1:bC (p::a) b=bU p b++bC a b:=by simp[bC]
  rw[h1,jq,gZ b e a,Fa];rfl
theorem Ck (l:List a_)(e:fT):tot (l.filter fun p=>bR p.1) e=if bR e=true then tot l e else 0:=by
 induction l with
 | nil=>simp[tot]
 | cons p r ih =>
  obtain⟨a,y⟩:=p
  by_cases h:bR a=true
  ·rw[Xb2 (p:=fun p:a_=>bR p.1) h];simp only[tot,ih]
   by_cases h2:a=e
   ·subst h2;simp[h]
   ·simp only[if_neg h2];split<;>grind
  ·rw[Xb1 (p:=fun p:a_=>bR p.1) h,ih];simp only[tot]
   by_cases h2:a=e
   ·subst h2;simp[h]
   ·simp only[if_neg h2];split<;>grind
theorem lY (a b:List a_)(e:fT):tot (iJ a b) e=if bR e=true then cv a (tot b) e else 0:=by
 rw[wN,<-lW,Ck,gZ]
theorem U7 (f g:fT->Rat)(e:fT):∀ a,cv a (fun x=>f x+g x) e=cv a f e+cv a g e
 | []=>by simp only[cv];grind
 | p::a=>by simp only[cv,U7 f g e a];grind
theorem kM (e:fT):∀ a b:List a_,tot (bC a b) e=tot (bC b a) e:=by
 have ah4:∀ a:List a_,bC a []=[]:=fun a=>by
  induction a with
  | nil=>rfl
  | cons p r ih =>
   have h1:bC (p::r) []=bU p []++bC r []:=by simp[bC]
   rw[h1,ih];rfl
 have afC:∀ (q:a_) (b a:List a_),tot (bC a (q::b)) e=tot (bU q a) e+tot (bC a b) e:=by
  intro q b a
  induction a with
  | nil=>simp only[bC,bU,List.flatMap_nil,Qc1,tot];grind
  | cons p r ih =>
   have h1:bC (p::r) (q::b)=bU p (q::b)++bC r (q::b):=by simp[bC]
   have h2:bC (p::r) b=bU p b++bC r b:=by simp[bC]
   have h3:bU p (q::b)=(iD p.1 q.1,p.2*q.2)::bU p b:=rfl;have h4:bU q (p::r)=(iD q.1 p.1,q.2*p.2)::bU q r:=rfl;rw[h1,h2,jq,jq,h3,h4,ih];simp only[tot,Qn q.1 p.1];grind
 intro a
 induction a with
 | nil=>intro b;rw[ah4];rfl
 | cons p r ih =>
  intro b;have h1:bC (p::r) b=bU p b++bC r b:=by simp[bC]
  rw[h1,jq,afC,ih]
theorem Qp {S:Nat}(hS:1<=S){a b:List a_}(ha:PV S a)(hb:PV S b):iJ a b=iJ b a :=
 PV.ext (iA hS ha hb) (iA hS hb ha) (fun e=>by
  rw[wN,wN,<-lW,<-lW,Ck,Ck,kM])
theorem U8 {S:Nat}(hS:1<=S){a b c:List a_}(ha:PV S a)(hb:PV S b)(hc:PV S c):iJ a (gz b c)=gz (iJ a b) (iJ a c):=by
 have h1:=gP hS hS hb hc;refine PV.ext (iA hS ha h1) (gP ae ae (iA hS ha hb) (iA hS ha hc)) (fun e => ?_);rw[jK,lY,lY,lY];have h2:tot (gz b c)=fun x=>tot b x+tot c x:=by funext x;exact jK b c x
 rw[h2,U7];split<;>grind
theorem zD (p:a_)(c:List a_):∀ b:List a_,bC (bU p b) c=bU p (bC b c)
 | []=>rfl
 | q::b=>by
  have h1:bU p (q::b)=(iD p.1 q.1,p.2*q.2)::bU p b:=rfl;have h2:∀ (x:a_) (r:List a_),bC (x::r) c=bU x c++bC r c:=fun x r=>by simp[bC]
  rw[h1,h2,h2,zD p c b];have h3:bU p (bU q c++bC b c)=bU p (bU q c)++bU p (bC b c):=by simp[bU]
  rw[h3]
  congr 1
  unfold bU;rw[Xh0];refine Xq1 fun r _ => ?_
  simp only[Function.comp,Mj,Rat.mul_assoc]
theorem zF (b c:List a_):∀ a:List a_,bC (bC a b) c=bC a (bC b c)
 | []=>rfl
 | p::a=>by
  have h1:bC (p::a) b=bU p b++bC a b:=by simp[bC]
  have h2:bC (p::a) (bC b c)=bU p (bC b c)++bC a (bC b c):=by simp[bC]
  have h3:bC (bU p b++bC a b) c=bC (bU p b) c++bC (bC a b) c:=by simp[bC,X30]
  rw[h1,h2,h3,zD,zF b c a]
theorem Cm {f g:fT->Rat}{e:fT}:∀ {a:List a_},(∀ p ∈ a,f (Cj e p.1)=g (Cj e p.1))->cv a f e=cv a g e
 | [],_=>rfl
 | p::a,h=>by
  have h1:=h p (Qj0 ..);have h2:=Cm (a:=a) (fun q hq=>h q (Qf1 _ hq));show p.2*f (Cj e p.1)+cv a f e=p.2*g (Cj e p.1)+cv a g e;rw[h1,h2]
theorem Fb {a b:List a_}(ha:Fits a)(hb:Fits b){c e:fT}(hc:bR c=true)(he:bR e=true):tot (iJ a b) (Cj e c)=tot (bC a b) (Cj e c):=by
 rw[lY,gZ];split
 ·rfl
 ·rename_i hf;rw[<-gZ];symm;refine kL fun x hx hxe => ?_
  obtain⟨p,hp,hx⟩:=Xz1.1 hx;obtain⟨q,hq,rfl⟩:=Qi1.1 hx;have h1:=fD (ha p hp);have h2:=fD (hb q hq);have h3:=fD hc;have h4:=fD he;apply hf;rw[Uj,<-hxe];have h5:iD p.1 q.1=Cj e c:=hxe;simp only[iD,Cj,Qm2]at h5 ⊢;omega
theorem Ml {S:Nat}(hS:1<=S){a b c:List a_}(ha:PV S a)(hb:PV S b)(hc:PV S c):iJ (iJ a b) c=iJ a (iJ b c):=by
 have h1:=iA hS ha hb;have h2:=iA hS hb hc;refine PV.ext (iA ae h1 hc) (iA hS ha h2) (fun e => ?_);rw[lY,lY];split
 ·rename_i he;rw[<-gZ,kM,gZ,Cm (g:=tot (bC a b)) (fun p hp=>Fb ha.fits hb.fits (hc.fits p hp) he),<-gZ,kM,zF,gZ];exact Cm fun p hp=>(Fb hb.fits hc.fits (ha.fits p hp) he).symm
 ·rfl
theorem U9 {S:Nat}(hS:1<=S){a:List a_}(ha:PV S a)(h1:PV S (bZ 1)):iJ a (bZ 1)=a:=by
 refine PV.ext (iA hS ha h1) ha (fun e => ?_);have hc:bZ 1=[((0,0,0),1)]:=if_neg cK;rw[lY,<-gZ,kM,hc,gZ];have h2:cv [((0,0,0),(1:Rat))] (tot a) e=tot a e:=by
  simp only[cv];have h3:((e.1-0,e.2.1-0,e.2.2-0):fT)=e:=by
   obtain⟨x,y,z⟩:=e;simp
  rw[h3];grind
 rw[h2];split
 ·rfl
 ·rename_i hf;exact(kL fun p hp hpe=>hf (by rw[<-hpe];exact ha.fits p hp)).symm
theorem Cn (x:BitVec 64):IntKind.wrap .u64 (x.toNat:Int)=(x.toNat:Int):=by
 have h:=x.isLt;rw[<-bS];exact wrap_u64 ae
theorem Co (u v:Int):Ba .u64 u v=((BitVec.ofInt 64 u ||| BitVec.ofInt 64 v).toNat:Int):=by
 rw[xY];exact Cn _
theorem tO (u v:Int):jH .u64 u v=((BitVec.ofInt 64 u &&& BitVec.ofInt 64 v).toNat:Int):=by
 rw[sW];exact Cn _
theorem Cq (x:BitVec 64):BitVec.ofInt 64 (x.toNat:Int)=x:=aA
theorem aaN {u:Int}(h:z_ u):((BitVec.ofInt 64 u).toNat:Int)=u:=by
 unfold z_ at h;rw[BitVec.toNat_ofInt];omega
theorem or_comm (u v:Int):Ba .u64 u v=Ba .u64 v u:=by rw[Co,Co,BitVec.or_comm]
theorem and_comm (u v:Int):jH .u64 u v=jH .u64 v u:=by rw[tO,tO,BitVec.and_comm]
theorem or_assoc (u v w:Int):Ba .u64 (Ba .u64 u v) w=Ba .u64 u (Ba .u64 v w):=by
 simp only[Co,Cq,BitVec.or_assoc]
theorem and_assoc (u v w:Int):jH .u64 (jH .u64 u v) w=jH .u64 u (jH .u64 v w):=by
 simp only[tO,Cq,BitVec.and_assoc]
theorem acO (u v w:Int):jH .u64 u (Ba .u64 v w)=Ba .u64 (jH .u64 u v) (jH .u64 u w):=by
 simp only[Co,tO,Cq]
 congr 2
 ext i
 simp[Bool.and_or_distrib_left]
theorem or_zero {u:Int}(h:z_ u):Ba .u64 u 0=u:=by
 rw[Co];have h0:BitVec.ofInt 64 0=0#64:=rfl;rw[h0,BitVec.or_zero,aaN h]
theorem and_ones {u:Int}(h:z_ u):jH .u64 u 18446744073709551615=u:=by
 rw[tO];have h0:BitVec.ofInt 64 18446744073709551615=BitVec.allOnes 64:=cK;rw[h0,BitVec.and_allOnes,aaN h]
section
theorem wP {S M:Nat}{x:Sv}(h:x.of 1 S M):∃ q,x=.q q/\qz q<=S:=by
 cases x with
 | q x=>exact⟨x,rfl,h.2⟩
 | c i n=>exact absurd h.1 cK
 | s u=>exact absurd h.1 cK
 | p a=>exact absurd h.1 cK
theorem wQ {S M:Nat}{x:Sv}(h:x.of 2 S M):∃ i n,x=.c i n/\0<=n/\n<=1099511627776/\(i=true->n=0):=by
 cases x with
 | c i n=>exact⟨i,n,rfl,h.2⟩
 | q x=>rcases h.1 with h | h;exact absurd h cK;exact absurd h.1 cK
 | s u=>exact absurd h.1 cK
 | p a=>exact absurd h.1 cK
theorem wR {S M:Nat}{x:Sv}(h:x.of 3 S M):∃ q,x=.q q/\0<=q/\q<=1/\qz q<=S:=by
 cases x with
 | q x =>
  rcases h.1 with h1|h1
  ·exact absurd h1 cK
  ·exact⟨x,rfl,h1.2.1,h1.2.2,h.2⟩
 | c i n=>exact absurd h.1 cK
 | s u=>exact absurd h.1 cK
 | p a=>exact absurd h.1 cK
theorem wS {S M:Nat}{x:Sv}(h:x.of 4 S M):∃ u,x=.s u/\z_ u:=by
 cases x with
 | s u=>exact⟨u,rfl,h.2⟩
 | q x=>rcases h.1 with h | h;exact absurd h cK;exact absurd h.1 cK
 | c i n=>exact absurd h.1 cK
 | p a=>exact absurd h.1 cK
theorem wT {S M:Nat}{x:Sv}(h:x.of 5 S M):∃ a,x=.p a/\PV S a/\a.length<=M:=by
 cases x with
 | p a=>exact⟨a,rfl,h.2⟩
 | q x=>rcases h.1 with h | h;exact absurd h cK;exact absurd h.1 cK
 | c i n=>exact absurd h.1 cK
 | s u=>exact absurd h.1 cK
def pU (k:Int):Sv:=if k=2 then .c false 0 else if k=4 then .s 18446744073709551615 else if k=5 then .p (bZ 1) else .q 1
theorem Za {k:Int}(hk:single k=true)(S M:Nat)(hS:1<=S)(hM:1<=M):(pU k).of k S M:=by
 rcases aO hk with rfl|rfl|rfl|rfl|rfl
 ·exact⟨.inl rfl,Qc2 yn hS⟩
 ·exact⟨rfl,cK,cK,fun _=>rfl⟩
 ·exact⟨.inr ⟨rfl,cK,cK⟩,Qc2 yn hS⟩
 ·exact⟨rfl,cK,cK⟩
 ·exact⟨rfl,j_ (Qc2 yn hS),Qc2 (yC 1) hM⟩
theorem pl1 (x y:Rat):dF 1 (.q x) (.q y)=.q (x+y):=rfl
theorem pl3 (x y:Rat):dF 3 (.q x) (.q y)=.q (if x<y then y else x):=by
 show(if x<y then Sv.q y else .q x)=_;split<;>rfl
theorem U_ (i j:Bool)(n m:Int):dF 2 (.c i n) (.c j m)=if nK j m i n then .c j m else .c i n:=rfl
theorem pl4 (u v:Int):dF 4 (.s u) (.s v)=.s (Ba .u64 u v):=rfl
theorem pl5 (a b:List a_):dF 5 (.p a) (.p b)=.p (gz a b):=rfl
theorem XC (x y:Rat):dn (.q x) (.q y)=.q (x*y):=rfl
theorem Va (i j:Bool)(n m:Int):dn (.c i n) (.c j m)=if i||(j||decide (1099511627776<n+m)) then .c true 0 else .c false (n+m):=rfl
theorem ti4 (u v:Int):dn (.s u) (.s v)=.s (jH .u64 u v):=rfl
theorem ti5 (a b:List a_):dn (.p a) (.p b)=.p (iJ a b):=rfl
section laws
variable {k:Int} {S M:Nat} {x y z:Sv}
theorem acR {a b:Rat}(ha:0<=a/\a<=1)(hb:0<=b/\b<=1):0<=a*b/\a*b<=1:=by
 have h1:0<=a*b:=Rat.mul_nonneg ha.1 hb.1;have h2:0<=a*(1-b):=Rat.mul_nonneg ha.1 (by grind);constructor
 ·exact h1
 ·grind
theorem Vb (hk:single k=true)(hS:1<=S)(hM:1<=M)(hx:x.of k S M)(hy:y.of k S M):(dn x y).of k (M*(S+S+1)+1) (M*M):=by
 have hb:S+S<=M*(S+S+1)+1:=by
  have:=Qe0 (S+S+1) hM;omega
 rcases aO hk with rfl|rfl|rfl|rfl|rfl
 ·obtain⟨a,rfl,ha⟩:=wP hx;obtain⟨b,rfl,hb'⟩:=wP hy;have:=Bq a b;exact⟨.inl rfl,show qz (a*b)<=_ by omega⟩
 ·obtain⟨i,n,rfl,h1,h2,h3⟩:=wQ hx;obtain⟨j,m,rfl,g1,g2,g3⟩:=wQ hy;rw[Va];split
  ·exact⟨rfl,cK,cK,fun _=>rfl⟩
  ·rename_i h;simp at h;exact⟨rfl,ae,ae,fun h=>by cases h⟩
 ·obtain⟨a,rfl,a0,a1,ha⟩:=wR hx;obtain⟨b,rfl,b0,b1,hb'⟩:=wR hy;have:=Bq a b;exact⟨.inr ⟨rfl,acR ⟨a0,a1⟩ ⟨b0,b1⟩⟩,show qz (a*b)<=_ by omega⟩
 ·obtain⟨u,rfl,hu⟩:=wS hx;obtain⟨v,rfl,hv⟩:=wS hy;refine⟨rfl,?_⟩;show z_ (jH .u64 u v);rw[tO];have:=(BitVec.ofInt 64 u &&& BitVec.ofInt 64 v).isLt;unfold z_;omega
 ·obtain⟨a,rfl,ha,la⟩:=wT hx;obtain⟨b,rfl,hb',lb⟩:=wT hy;refine⟨rfl,(iA hS ha hb').mono ?_,Qc2 (zy a b) (Q72 la lb)⟩;exact X11 (Qe0 _ la) 1
theorem Qq (hk:single k=true)(hS:1<=S)(hx:x.of k S M)(hy:y.of k S M):dF k x y=dF k y x:=by
 rcases aO hk with rfl|rfl|rfl|rfl|rfl
 ·obtain⟨a,rfl,_⟩:=wP hx;obtain⟨b,rfl,_⟩:=wP hy;rw[pl1,pl1,Rat.add_comm]
 ·obtain⟨i,n,rfl,h1,h2,h3⟩:=wQ hx;obtain⟨j,m,rfl,g1,g2,g3⟩:=wQ hy;rw[U_,U_];unfold nK;cases i<;>cases j<;>simp at*<;>(repeat' split)<;>simp_all<;>omega
 ·obtain⟨a,rfl,_⟩:=wR hx;obtain⟨b,rfl,_⟩:=wR hy;rw[pl3,pl3]
  congr 1
  split<;>split<;>grind
 ·obtain⟨u,rfl,_⟩:=wS hx;obtain⟨v,rfl,_⟩:=wS hy;rw[pl4,pl4,or_comm]
 ·obtain⟨a,rfl,ha,_⟩:=wT hx;obtain⟨b,rfl,hb,_⟩:=wT hy;rw[pl5,pl5,Qo hS ha hb]
theorem Mm (hk:single k=true)(hS:1<=S)(hx:x.of k S M)(hy:y.of k S M):dn x y=dn y x:=by
 rcases aO hk with rfl|rfl|rfl|rfl|rfl
 ·obtain⟨a,rfl,_⟩:=wP hx;obtain⟨b,rfl,_⟩:=wP hy;rw[XC,XC,Rat.mul_comm]
 ·obtain⟨i,n,rfl,h1,h2,h3⟩:=wQ hx;obtain⟨j,m,rfl,g1,g2,g3⟩:=wQ hy;rw[Va,Va,Int.add_comm m n];cases i<;>cases j<;>rfl
 ·obtain⟨a,rfl,_⟩:=wR hx;obtain⟨b,rfl,_⟩:=wR hy;rw[XC,XC,Rat.mul_comm]
 ·obtain⟨u,rfl,_⟩:=wS hx;obtain⟨v,rfl,_⟩:=wS hy;rw[ti4,ti4,and_comm]
 ·obtain⟨a,rfl,ha,_⟩:=wT hx;obtain⟨b,rfl,hb,_⟩:=wT hy;rw[ti5,ti5,Qp hS ha hb]
theorem Mq (hk:single k=true)(hS:1<=S)(hx:x.of k S M)(hy:y.of k S M)(hz:z.of k S M):dF k (dF k x y) z=dF k x (dF k y z):=by
 rcases aO hk with rfl|rfl|rfl|rfl|rfl
 ·obtain⟨a,rfl,_⟩:=wP hx;obtain⟨b,rfl,_⟩:=wP hy;obtain⟨c,rfl,_⟩:=wP hz;simp only[pl1,Rat.add_assoc]
 ·obtain⟨i,n,rfl,h1,h2,h3⟩:=wQ hx;obtain⟨j,m,rfl,g1,g2,g3⟩:=wQ hy;obtain⟨o,l,rfl,f1,f2,f3⟩:=wQ hz;rw[U_,U_]
  by_cases a:nK j m i n=true<;>by_cases b:nK o l j m=true<;>simp only[a,b,if_true,if_false,Qh1,U_]<;>unfold nK at*<;>cases i<;>cases j<;>cases o<;>simp at*<;>(repeat' split)<;>simp_all<;>omega
 ·obtain⟨a,rfl,_⟩:=wR hx;obtain⟨b,rfl,_⟩:=wR hy;obtain⟨c,rfl,_⟩:=wR hz;simp only[pl3]
  congr 1
  repeat' split
  all_goals grind
 ·obtain⟨u,rfl,_⟩:=wS hx;obtain⟨v,rfl,_⟩:=wS hy;obtain⟨w,rfl,_⟩:=wS hz;simp only[pl4,or_assoc]
 ·obtain⟨a,rfl,ha,_⟩:=wT hx;obtain⟨b,rfl,hb,_⟩:=wT hy;obtain⟨c,rfl,hc,_⟩:=wT hz;simp only[pl5,Mk hS ha hb hc]
theorem Jq (hk:single k=true)(hS:1<=S)(hx:x.of k S M)(hy:y.of k S M)(hz:z.of k S M):dn (dn x y) z=dn x (dn y z):=by
 rcases aO hk with rfl|rfl|rfl|rfl|rfl
 ·obtain⟨a,rfl,_⟩:=wP hx;obtain⟨b,rfl,_⟩:=wP hy;obtain⟨c,rfl,_⟩:=wP hz;simp only[XC,Rat.mul_assoc]
 ·obtain⟨i,n,rfl,h1,h2,h3⟩:=wQ hx;obtain⟨j,m,rfl,g1,g2,g3⟩:=wQ hy;obtain⟨o,l,rfl,f1,f2,f3⟩:=wQ hz;rw[Va,Va]
  by_cases a:1099511627776<n+m<;>by_cases b:1099511627776<m+l<;>cases i<;>cases j<;>cases o<;>(try simp[a,b,Va])<;>(try (repeat' split))<;>first|done|rfl|omega|(congr 1;omega)|(simp_all;omega)
 ·obtain⟨a,rfl,_⟩:=wR hx;obtain⟨b,rfl,_⟩:=wR hy;obtain⟨c,rfl,_⟩:=wR hz;simp only[XC,Rat.mul_assoc]
 ·obtain⟨u,rfl,_⟩:=wS hx;obtain⟨v,rfl,_⟩:=wS hy;obtain⟨w,rfl,_⟩:=wS hz;simp only[ti4,and_assoc]
 ·obtain⟨a,rfl,ha,_⟩:=wT hx;obtain⟨b,rfl,hb,_⟩:=wT hy;obtain⟨c,rfl,hc,_⟩:=wT hz;simp only[ti5,Ml hS ha hb hc]
theorem Mr (hk:single k=true)(hS:1<=S)(hx:x.of k S M)(hy:y.of k S M)(hz:z.of k S M):dn x (dF k y z)=dF k (dn x y) (dn x z):=by
 rcases aO hk with rfl|rfl|rfl|rfl|rfl
 ·obtain⟨a,rfl,_⟩:=wP hx;obtain⟨b,rfl,_⟩:=wP hy;obtain⟨c,rfl,_⟩:=wP hz;simp only[XC,pl1,Rat.mul_add]
 ·obtain⟨i,n,rfl,h1,h2,h3⟩:=wQ hx;obtain⟨j,m,rfl,g1,g2,g3⟩:=wQ hy;obtain⟨o,l,rfl,f1,f2,f3⟩:=wQ hz;rw[Va,Va,U_]
  by_cases a:1099511627776<n+m<;>by_cases b:1099511627776<n+l<;>by_cases c:l<m<;>cases i<;>cases j<;>cases o<;>(try simp[a,b,c,Va,U_,nK])<;>(try (repeat' split))<;>first|done|rfl|omega|(congr 1;omega)|(simp_all;omega)
 ·obtain⟨a,rfl,a0,a1,_⟩:=wR hx;obtain⟨b,rfl,_⟩:=wR hy;obtain⟨c,rfl,_⟩:=wR hz;simp only[XC,pl3]
  congr 1
  split
  ·rename_i h;have h1:0<=a*(c-b):=Rat.mul_nonneg a0 (by grind);split
   ·rfl
   ·grind
  ·rename_i h;have h1:0<=a*(b-c):=Rat.mul_nonneg a0 (by grind);split
   ·grind
   ·rfl
 ·obtain⟨u,rfl,_⟩:=wS hx;obtain⟨v,rfl,_⟩:=wS hy;obtain⟨w,rfl,_⟩:=wS hz;simp only[ti4,pl4,acO]
 ·obtain⟨a,rfl,ha,_⟩:=wT hx;obtain⟨b,rfl,hb,_⟩:=wT hy;obtain⟨c,rfl,hc,_⟩:=wT hz;simp only[ti5,pl5,U8 hS ha hb hc]
theorem Qr (hk:single k=true)(hS:1<=S)(hx:x.of k S M):dF k x (dH k)=x:=by
 rcases aO hk with rfl|rfl|rfl|rfl|rfl
 ·obtain⟨a,rfl,_⟩:=wP hx;show Sv.q (a+0)=_;rw[Rat.add_zero]
 ·obtain⟨i,n,rfl,h1,h2,h3⟩:=wQ hx;show(if nK true 0 i n then Sv.c true 0 else .c i n)=_;rfl
 ·obtain⟨a,rfl,a0,_⟩:=wR hx;show dF 3 (.q a) (.q 0)=_;rw[pl3,if_neg (by grind)]
 ·obtain⟨u,rfl,hu⟩:=wS hx;show Sv.s (Ba .u64 u 0)=_;rw[or_zero hu]
 ·obtain⟨a,rfl,ha,_⟩:=wT hx;show Sv.p (gz a [])=_;rw[U6 hS ha]
theorem Qt (hk:single k=true)(hS:1<=S)(hx:x.of k S M):dn x (pU k)=x:=by
 rcases aO hk with rfl|rfl|rfl|rfl|rfl
 ·obtain⟨a,rfl,_⟩:=wP hx;show Sv.q (a*1)=_;rw[Rat.mul_one]
 ·obtain⟨i,n,rfl,h1,h2,h3⟩:=wQ hx;show(if i||(false||decide (1099511627776<n+0)) then Sv.c true 0 else .c false (n+0))=_;cases i
  ·have:¬ 1099511627776<n+0:=ae;simp[this];omega
  ·rw[h3 rfl];rfl
 ·obtain⟨a,rfl,_⟩:=wR hx;show Sv.q (a*1)=_;rw[Rat.mul_one]
 ·obtain⟨u,rfl,hu⟩:=wS hx;show Sv.s (jH .u64 u 18446744073709551615)=_;rw[and_ones hu]
 ·obtain⟨a,rfl,ha,_⟩:=wT hx;show Sv.p (iJ a (bZ 1))=_;rw[U9 hS ha (j_ (Qc2 yn hS))]
end laws
end
set_option maxHeartbeats 8000000
section
def dW (kk:Int)(ps:List Int):List Int:=if kk=6 then ps else [kk]
def cO (kk:Int)(xs:List Sv):W:=if kk=6 then fV (xs.map Sv.w) else(xs.headD (.q 0)).w
noncomputable def bQ (xs ys:List Sv):List Sv:=(xs.zip ys).map fun p=>dn p.1 p.2
theorem aU {kk:Int}{ps:List Int}(h:aK kk ps=true):∀ k ∈ dW kk ps,single k=true:=by
 unfold dW;split
 ·rename_i h6;subst h6;exact(rg6 h).2.2
 ·rename_i h6;unfold aK at h;rw[if_pos h6]at h;simp only[Qb1]at h;intro k hk;rw[Qz0]at hk;subst hk;exact h.1
theorem eB {xs ys:List Sv}{i:Nat}{z:Sv}(h:(bQ xs ys)[i]?=some z):∃ x y,xs[i]?=some x/\ys[i]?=some y/\z=dn x y:=by
 unfold bQ at h;rw[Qb2,Qf2]at h;obtain⟨⟨x,y⟩,h1,rfl⟩:=h;rw[Xs0]at h1;exact⟨x,y,h1.1,h1.2,rfl⟩
theorem Ms {S M:Nat}(hS:1<=S)(hM:1<=M){ks:List Int}(hs:∀ k ∈ ks,single k=true){xs ys:List Sv}(hx:gY S M ks xs)(hy:gY S M ks ys):gY (M*(S+S+1)+1) (M*M) ks (bQ xs ys):=by
 refine⟨by simp[bQ,hx.1,hy.1],fun i k z hk hz => ?_⟩;obtain⟨x,y,h2,h3,rfl⟩:=eB hz;exact Vb (hs k (Qa2 hk)) hS hM (hx.2 i k x hk h2) (hy.2 i k y hk h3)
theorem gY.mono {S T M M':Nat}{ks:List Int}{xs:List Sv}(h:gY S M ks xs)(hST:S<=T)(hM:M<=M'):gY T M' ks xs:=⟨h.1,fun i k x hk hx=>(h.2 i k x hk hx).mono hST hM⟩
theorem lZ {ks:List Int}{l m:List Sv}(hl:l.length=ks.length)(hm:m.length=ks.length)(h:∀ (i:Nat) (k:Int) (x y:Sv),ks[i]?=some k->l[i]?=some x->m[i]?=some y->x=y):l=m:=by
 refine List.ext_getElem ae (fun i h1 h2 => ?_);exact h i (ks[i]'(by omega)) _ _ (Qa1 ae) (Qa1 h1) (Qa1 h2)
theorem dw {α:Type}{l:List α}{i:Nat}{x y:α}(h1:l[i]?=some x)(h2:l[i]?=some y):x=y:=by
 rw[h1]at h2;exact Qw1 h2
section laws
variable {S M:Nat} {ks:List Int} {xs ys zs:List Sv}
theorem iQ (hx:xs.length=ks.length)(hy:ys.length=ks.length):(bV ks xs ys).length=ks.length:=by simp[bV,hx,hy]
theorem eO (hx:xs.length=ks.length)(hy:ys.length=ks.length):(bQ xs ys).length=ks.length:=by simp[bQ,hx,hy]
theorem Mt (hS:1<=S)(hs:∀ k ∈ ks,single k=true)(hx:gY S M ks xs)(hy:gY S M ks ys):bV ks xs ys=bV ks ys xs:=by
 refine lZ (iQ hx.1 hy.1) (iQ hy.1 hx.1) (fun i k u v hk hu hv => ?_);obtain⟨k1,x,y,a1,a2,a3,rfl⟩:=gT hu;obtain⟨k2,y',x',b1,b2,b3,rfl⟩:=gT hv;obtain rfl:=dw hk a1;obtain rfl:=dw hk b1;obtain rfl:=dw a2 b3;obtain rfl:=dw a3 b2;exact Qq (hs k (Qa2 hk)) hS (hx.2 i k _ hk a2) (hy.2 i k _ hk a3)
theorem Jr (hS:1<=S)(hs:∀ k ∈ ks,single k=true)(hx:gY S M ks xs)(hy:gY S M ks ys):bQ xs ys=bQ ys xs:=by
 refine lZ (eO hx.1 hy.1) (eO hy.1 hx.1) (fun i k u v hk hu hv => ?_);obtain⟨x,y,a2,a3,rfl⟩:=eB hu;obtain⟨y',x',b2,b3,rfl⟩:=eB hv;obtain rfl:=dw a2 b3;obtain rfl:=dw a3 b2;exact Mm (hs k (Qa2 hk)) hS (hx.2 i k _ hk a2) (hy.2 i k _ hk a3)
theorem Js (hS:1<=S)(hs:∀ k ∈ ks,single k=true)(hx:gY S M ks xs)(hy:gY S M ks ys)(hz:gY S M ks zs):bV ks (bV ks xs ys) zs=bV ks xs (bV ks ys zs):=by
 refine lZ (iQ (iQ hx.1 hy.1) hz.1) (iQ hx.1 (iQ hy.1 hz.1)) (fun i k u v hk hu hv => ?_);obtain⟨k1,t,z,a1,a2,a3,rfl⟩:=gT hu;obtain⟨k2,x,y,c1,c2,c3,rfl⟩:=gT a2;obtain⟨k3,x',t',b1,b2,b3,rfl⟩:=gT hv;obtain⟨k4,y',z',d1,d2,d3,rfl⟩:=gT b3;obtain rfl:=dw hk a1;obtain rfl:=dw hk b1;obtain rfl:=dw hk c1;obtain rfl:=dw hk d1;obtain rfl:=dw c2 b2;obtain rfl:=dw c3 d2;obtain rfl:=dw a3 d3;exact Mq (hs k (Qa2 hk)) hS (hx.2 i k _ hk c2) (hy.2 i k _ hk c3) (hz.2 i k _ hk a3)
theorem GI (hS:1<=S)(hs:∀ k ∈ ks,single k=true)(hx:gY S M ks xs)(hy:gY S M ks ys)(hz:gY S M ks zs):bQ (bQ xs ys) zs=bQ xs (bQ ys zs):=by
 refine lZ (eO (eO hx.1 hy.1) hz.1) (eO hx.1 (eO hy.1 hz.1)) (fun i k u v hk hu hv => ?_);obtain⟨t,z,a2,a3,rfl⟩:=eB hu;obtain⟨x,y,c2,c3,rfl⟩:=eB a2;obtain⟨x',t',b2,b3,rfl⟩:=eB hv;obtain⟨y',z',d2,d3,rfl⟩:=eB b3;obtain rfl:=dw c2 b2;obtain rfl:=dw c3 d2;obtain rfl:=dw a3 d3;exact Jq (hs k (Qa2 hk)) hS (hx.2 i k _ hk c2) (hy.2 i k _ hk c3) (hz.2 i k _ hk a3)
theorem Jt (hS:1<=S)(hs:∀ k ∈ ks,single k=true)(hx:gY S M ks xs)(hy:gY S M ks ys)(hz:gY S M ks zs):bQ xs (bV ks ys zs)=bV ks (bQ xs ys) (bQ xs zs):=by
 refine lZ (eO hx.1 (iQ hy.1 hz.1)) (iQ (eO hx.1 hy.1) (eO hx.1 hz.1)) (fun i k u v hk hu hv => ?_);obtain⟨x,t,a2,a3,rfl⟩:=eB hu;obtain⟨k2,y,z,c1,c2,c3,rfl⟩:=gT a3;obtain⟨k3,s,t',b1,b2,b3,rfl⟩:=gT hv;obtain⟨x',y',d2,d3,rfl⟩:=eB b2;obtain⟨x'',z',e2,e3,rfl⟩:=eB b3;obtain rfl:=dw hk b1;obtain rfl:=dw hk c1;obtain rfl:=dw a2 d2;obtain rfl:=dw a2 e2;obtain rfl:=dw c2 d3;obtain rfl:=dw c3 e3;exact Mr (hs k (Qa2 hk)) hS (hx.2 i k _ hk a2) (hy.2 i k _ hk c2) (hz.2 i k _ hk c3)
theorem nW {f:Int->Sv}{i:Nat}{k:Int}{z:Sv}(hk:ks[i]?=some k)(h:(ks.map f)[i]?=some z):z=f k:=by
 rw[Qb2,hk]at h;exact(Qw1 h).symm
theorem Cr (hS:1<=S)(hs:∀ k ∈ ks,single k=true)(hx:gY S M ks xs):bV ks xs (ks.map dH)=xs:=by
 refine lZ (iQ hx.1 aA) hx.1 (fun i k u v hk hu hv => ?_);obtain⟨k1,x,y,a1,a2,a3,rfl⟩:=gT hu;obtain rfl:=dw hk a1;obtain rfl:=dw a2 hv;rw[nW hk a3];exact Qr (hs k (Qa2 hk)) hS (hx.2 i k _ hk a2)
theorem Mv (hS:1<=S)(hs:∀ k ∈ ks,single k=true)(hx:gY S M ks xs):bQ xs (ks.map pU)=xs:=by
 refine lZ (eO hx.1 aA) hx.1 (fun i k u v hk hu hv => ?_);obtain⟨x,y,a2,a3,rfl⟩:=eB hu;obtain rfl:=dw a2 hv;rw[nW hk a3];exact Qt (hs k (Qa2 hk)) hS (hx.2 i k _ hk a2)
theorem Ju (hs:∀ k ∈ ks,single k=true)(hx:gY S M ks xs):bQ xs (ks.map dH)=ks.map dH:=by
 refine lZ (eO hx.1 aA) aA (fun i k u v hk hu hv => ?_);obtain⟨x,y,a2,a3,rfl⟩:=eB hu;rw[nW hk a3,nW hk hv];exact Me (hs k (Qa2 hk)) (hx.2 i k _ hk a2)
theorem mF (hS:1<=S)(hs:∀ k ∈ ks,single k=true):gY S M ks (ks.map dH):=⟨aA,fun i k x hk hx=>by rw[nW hk hx];exact UW (hs k (Qa2 hk)) S M hS⟩
theorem Jv (hS:1<=S)(hM:1<=M)(hs:∀ k ∈ ks,single k=true):gY S M ks (ks.map pU):=⟨aA,fun i k x hk hx=>by rw[nW hk hx];exact Za (hs k (Qa2 hk)) S M hS hM⟩
end laws
section ring
variable {kk:Int} {ps:List Int} {S M:Nat} {xs ys:List Sv}
theorem rP {k:Int}(h:gY S M [k] xs):∃ x,xs=[x]/\x.of k S M:=by
 match xs,h with
 | [x],h=>exact⟨x,rfl,h.2 0 k x rfl rfl⟩
 | [],h=>simp[gY]at h
 | _::_::_,h=>simp[gY]at h
theorem tQ (h:aK kk ps=true)(h6:kk≠6):ps=[]/\single kk=true:=by
 unfold aK at h;rw[if_pos h6]at h;simp only[Qb1,decide_eq_true_eq]at h;exact⟨h.2,h.1⟩
theorem Jw (hv:aK kk ps=true)(hS:S<=1000)(h:gY S M (dW kk ps) xs):(cO kk xs).OK:=by
 unfold cO
 by_cases h6:kk=6
 ·subst h6;rw[if_pos rfl];unfold dW at h;rw[if_pos rfl]at h;exact Om hS (rg6 hv).1 h
 ·rw[if_neg h6];unfold dW at h;rw[if_neg h6]at h;obtain⟨x,rfl,hx⟩:=rP h;exact UY hx hS
theorem Cs (hv:aK kk ps=true)(h:gY S M (dW kk ps) xs):cZ kk ps (cO kk xs)=true:=by
 unfold cO
 by_cases h6:kk=6
 ·subst h6;rw[if_pos rfl];unfold dW at h;rw[if_pos rfl]at h;exact Ci hv h
 ·rw[if_neg h6];unfold dW at h;rw[if_neg h6]at h;obtain⟨x,rfl,hx⟩:=rP h;unfold cZ;rw[hv,if_pos h6];exact UX hx
theorem yD (hv:aK kk ps=true):ps.length<=1000000:=by
 by_cases h6:kk=6
 ·subst h6;have:=(rg6 hv).1;omega
 ·rw[(tQ hv h6).1];simp
theorem Jy (hv:aK kk ps=true)(hS:S<=1000)(h:gY S M (dW kk ps) xs):Ca E1 41 [.d (aT kk ps),.d (cO kk xs).d] (.d (cO kk xs).d,none) :=
 GH (yD hv) (Jw hv hS h) (Cs hv h)
theorem Oq (hv:aK kk ps=true)(hS:S<=1000)(hM:(M+M)*(S+1)<=50000)(hx:gY S M (dW kk ps) xs)(hy:gY S M (dW kk ps) ys) :
  Ca E1 14 [.d (aT kk ps),.d (cO kk xs).d,.d (cO kk ys).d] (.d (cO kk (bV (dW kk ps) xs ys)).d,none):=by
 have vx:=Jy hv hS hx;have vy:=Jy hv hS hy;unfold cO dW at*
 by_cases h6:kk=6
 ·subst h6;simp only[if_true]at*;exact Mi hS hM hv _ _ hx hy vx vy
 ·simp only[if_neg h6]at*;obtain⟨rfl,hs⟩:=tQ hv h6;obtain⟨x,rfl,hx'⟩:=rP hx;obtain⟨y,rfl,hy'⟩:=rP hy;exact UT hs _ _ _ _ _ vx vy (Jm hs hS hM hx' hy')
theorem Zb (hv:aK kk ps=true)(hS:S<=1000)(h:gY S M (dW kk ps) xs):Ca E1 12 [.d (cO kk xs).d,.d (cO kk xs).d] (dB true,none):=by
 have hok:=Jw hv hS h;have:=ym _ hok _ hok;rw[W.NU]at this;exact Ca.ib this
end ring
end
end Fi.S
noncomputable section
namespace Fi.S
open Go Fi
set_option maxHeartbeats 8000000
set_option maxRecDepth 10000
theorem Vd {k:Int}(hk:single k=true):(pU k).w.d=GJ k:=by
 have h1:qs 1=false:=cK;have h2:qn 1=[1]:=by
  show enc 1=[1]
  exact jw ae ae
 have h3:qd 1=[]:=if_pos rfl;have hc:bZ 1=[((0,0,0),1)]:=if_neg cK;rcases aO hk with rfl|rfl|rfl|rfl|rfl
 ·simp[pU,GJ,Sv.w,W.d,W.ds,PD,LD,LL,h1,h2,h3]
 ·simp[pU,GJ,Sv.w,W.d,W.ds,PD,LD,LL]
 ·simp[pU,GJ,Sv.w,W.d,W.ds,PD,LD,LL,h1,h2,h3]
 ·simp[pU,GJ,Sv.w,W.d,W.ds,PD,LD,LL]
 ·simp[pU,GJ,Sv.w,W.d,W.ds,PD,LD,LL,hc,uE,Mo.d,h1,h2,h3,Jn]
theorem acT {kk:Int}{ps:List Int}(h:aK kk ps=true):(cO kk ((dW kk ps).map pU)).d=Oi kk ps:=by
 have hs:=aU h;unfold cO dW Oi at*
 by_cases h6:kk=6
 ·subst h6;simp only[if_true]at*;have:W.ds ((ps.map pU).map Sv.w)=ps.map GJ:=by
   rw[W.h_,Xh0,Xh0];exact Xq1 fun x hx=>Vd (hs x hx)
  show D.a [vB false,.s 1 [],.s 1 [],vI 0,vB false,.v (.int .u64 0),.s 6 [],.s 8 (W.ds ((ps.map pU).map Sv.w))]=_;rw[this]
 ·simp only[if_neg h6]at*;exact Vd (hs kk aA)
theorem Mw (k:Int):(rO k=6/\(zB k=[1,2]\/zB k=[3,4,5]))\/((rO k=1\/rO k=2\/rO k=3\/rO k=4\/rO k=5)/\zB k=[]):=by
 have h1:=Qo1 k (show(7:Int)≠0 by omega);have h2:=Ql2 k (show(0:Int)<7 by omega);unfold rO zB
 by_cases h5:k % 7=5
 ·left;rw[if_pos (.inl h5),if_pos h5];exact⟨rfl,.inl rfl⟩
 ·by_cases h6:k % 7=6
  ·left;rw[if_pos (.inr h6),if_neg h5,if_pos h6];exact⟨rfl,.inr rfl⟩
  ·right
   rw[if_neg (by rintro(h|h)<;>contradiction),if_neg h5,if_neg h6];exact⟨ae,rfl⟩
theorem Mx (k:Int):aK (rO k) (zB k)=true:=by
 rcases Mw k with ⟨h1,h2|h2⟩|⟨h1|h1|h1|h1|h1,h2⟩<;>rw[h1,h2]<;>decide
theorem Zc {kk:Int}{ps:List Int}(h:aK kk ps=true):True/\Ca E1 20 [.d (aT kk ps)] (.d (cO kk ((dW kk ps).map pU)).d,none):=by
 rw[acT h];exact⟨trivial,Y8 h⟩
theorem Fe {kk:Int}{ps:List Int}(h:aK kk ps=true):Ca E1 26 [.d (aT kk ps)] (.d (cO kk ((dW kk ps).map dH)).d,none):=by
 have h1:=U1 h;have e:Jo kk ps=cO kk ((dW kk ps).map dH):=by
  unfold Jo cO dW
  by_cases h6:kk=6
  ·simp only[if_pos h6,Xh0];rfl
  ·simp only[if_neg h6];rfl
 rw[e]at h1;exact h1
noncomputable def rQ (kk:Int) (ps:List Int) (v:Int):List Sv:=if kk=6 then(List.range ps.length).map fun i=>Cf (ps.getD i 0) (ai .i64 (v+i)) else [Cf kk v]
theorem zG {k:Int}(hk:single k=true)(v:Int)(hv:gy v):Ca E1 16 [.d (aT k []),dI v] (.d (Cf k v).w.d,none):=by
 unfold Cf;rcases aO hk with rfl|rfl|rfl|rfl|rfl
 ·exact afy v hv
 ·exact afz v hv
 ·exact acM v hv
 ·exact afA v hv
 ·exact afB v hv
theorem Ve (z:Int):gy (ai .i64 z):=by
 have h:=Go.wf_wrap .i64 z;rw[bS];exact wf_i64 h
theorem Ff {kk:Int}{ps:List Int}(h:aK kk ps=true)(v:Int):gY 9 2 (dW kk ps) (rQ kk ps v):=by
 have hs:=aU h;unfold rQ dW at*
 by_cases h6:kk=6
 ·simp only[if_pos h6]at*;refine⟨aA,fun i k x hk hx => ?_⟩;have hi:i<ps.length:=(bq hk)
  rw[Qb2,Xq2 hi]at hx;simp only[Q11,Qd2]at hx;subst hx;have hg:ps.getD i 0=k:=by rw[Qk2,hk];rfl
  rw[hg];exact Oj (hs k (Qa2 hk)) _
 ·simp only[if_neg h6]at*;refine⟨rfl,fun i k x hk hx => ?_⟩
  match i with
  | 0 =>
   cases hk;cases hx;exact Oj (hs kk aA) v
  | i+1=>cases hk
theorem Jz {kk:Int}{ps:List Int}(h:aK kk ps=true)(v:Int)(hv:gy v):Ca E1 16 [.d (aT kk ps),dI v] (.d (cO kk (rQ kk ps v)).d,none):=by
 have hs:=aU h;unfold rQ cO dW at*
 by_cases h6:kk=6
 ·subst h6;simp only[if_true]at*;refine U5 v ps _ (rg6 h).1 aA (fun i k z hk hz => ?_);have hi:i<ps.length:=(bq hk)
  rw[Qb2,Qb2,Xq2 hi]at hz;simp only[Q11,Qd2]at hz;subst hz;have hg:ps.getD i 0=k:=by rw[Qk2,hk];rfl
  rw[hg];exact zG (hs k (Qa2 hk)) _ (Ve _)
 ·simp only[if_neg h6]at*;obtain⟨rfl,hk⟩:=tQ h h6;exact zG hk v hv
theorem Qu {k:Int}{S M:Nat}(hS:S<=1000){x:Sv}(h:x.of k S M):∃ s l1 l2 c b u p,x.w.d=wD s l1 l2 c b u p [] /\
  Ca E1 85 [.d (.a [vB s,.s 1 l1,.s 1 l2])] (.d (.a [vB s,.s 1 l1,.s 1 l2]),none)/\Ca E1 86 [.d (.s 6 p)] (.d (.s 6 p),none):=by
 have t0:=Ca.ib (iI 0 (by have:=jJ;omega));rw[wG]at t0;obtain⟨_,p0,rfl⟩:=pM (PV.nil S) hS;cases x with
 | q x =>
  have:=h.2;exact⟨_,_,_,_,_,_,_,rfl,Ca.ib (iI x ae),p0⟩
 | c i n=>exact⟨_,_,_,_,_,_,_,rfl,t0,p0⟩
 | s u=>exact⟨_,_,_,_,_,_,_,rfl,t0,p0⟩
 | p l =>
  obtain⟨_,t1,rfl⟩:=pM h.2.1 hS;exact⟨_,_,_,_,_,_,_,UH l,t0,t1⟩
theorem dO (kk:Int)(ps:List Int)(i:Nat)(j:Int)(hj:j=i)(a:Int)(h:ps[i]?=some a):Ca E1 56 [.d (aT kk ps),dI j] (.d (aT a []),none):=by
 subst hj;have e1:(LK .i64 ps)[i]?=some (vI a):=by simp[LK,h]
 have hl:i<(LK .i64 ps).length:=(bq e1)
 have h0:(0:Int)<=(i:Int):=ae;refine Ca.bP (n:=60) ?_;rw[av rfl (aM 56 f56:E1.fn _=_) rfl];have e2:=idx e1;have e0:LK .i64 []=[]:=rfl;unfold aT;rw[e0];simp[f56,e1,e2,hl,h0]
theorem MB:ai .i64 1=1:=wrap_i64 ae
theorem wr2:ai .i64 2=2:=wrap_i64 ae
theorem wr3:ai .i64 3=3:=wrap_i64 ae
theorem ek {k:Int}(hk:single k=true):aK k []=true/\k≠6:=by
 have h6:k≠6:=by
  rintro rfl;exact absurd hk cK
 exact⟨by unfold aK;rw[if_pos h6,hk];rfl,h6⟩
theorem oI {kk:Int}{ps:List Int}{S M:Nat}{xs:List Sv}(hv:aK kk ps=true)(h:gY S M (dW kk ps) xs) :
  (single kk=true/\ps=[]/\∃ x,xs=[x]/\x.of kk S M) \/
  (kk=6/\∃ a b x y,ps=[a,b]/\xs=[x,y]/\single a=true/\single b=true/\x.of a S M/\y.of b S M) \/
  (kk=6/\∃ a b c x y z,ps=[a,b,c]/\xs=[x,y,z]/\single a=true/\single b=true/\single c=true/\x.of a S M/\y.of b S M/\z.of c S M):=by
 have hs:=aU hv
 by_cases h6:kk=6
 ·subst h6;obtain⟨l3,l2,_⟩:=rg6 hv;unfold dW at*;rw[if_pos rfl]at h hs;have hl:=h.1
  match ps,xs,l3,l2,hl with
  | [a,b],[x,y],_,_,_=>exact .inr (.inl ⟨rfl,a,b,x,y,rfl,rfl,hs a aA,hs b aA,h.2 0 a x rfl rfl,h.2 1 b y rfl rfl⟩)
  | [a,b,c],[x,y,z],_,_,_=>exact .inr (.inr ⟨rfl,a,b,c,x,y,z,rfl,rfl,hs a aA,hs b aA,hs c aA,h.2 0 a x rfl rfl,h.2 1 b y rfl rfl,h.2 2 c z rfl rfl⟩)
 ·obtain⟨rfl,hk⟩:=tQ hv h6;unfold dW at h;rw[if_neg h6]at h;obtain⟨x,rfl,hx⟩:=rP h;exact .inl ⟨hk,rfl,x,rfl,hx⟩
theorem mk_one {k:Int}(hk:single k=true)(x:Sv):cO k [x]=x.w:=if_neg (ek hk).2
theorem Zd {k:Int}(hk:single k=true){S M:Nat}{x:Sv}(h:x.of k S M):gY S M (dW k []) [x]:=by
 unfold dW;rw[if_neg (ek hk).2];exact⟨rfl,fun i k' x' h1 h2=>by
  match i with
  | 0=>cases h1;cases h2;exact h
  | i+1=>cases h1⟩
theorem nX {k:Int}(hk:single k=true){S M:Nat}(hS1:1<=S)(hS:S<=1000){x:Sv}(h:x.of k S M):Ca E1 53 [.d (aT k []),.d x.w.d] (.d x.w.d,none):=by
 have hc:=Ca.ib (tF k [] x.w aA (UY h hS));have hm:=Cs (ek hk).1 (Zd hk h);rw[mk_one hk]at hm;rw[hm]at hc;obtain⟨s,l1,l2,c,b,u,p,e,t1,t2⟩:=Qu hS h;rw[e]at hc ⊢;obtain⟨K,hK,a0,a1,a2⟩:=(hc.j (t1.j t2.any)).at 0;clear hc t1 t2 e h hm hK;refine Ca.bP (n:=K+200) ?_;rw[av rfl (k53:E1.fn _=_) rfl];unfold wD aT at*;generalize LK .i64 []=l0 at*;simp[aC,f53,a0,a1,a2]
theorem kg (xs:List Sv):(fV (xs.map Sv.w)).d=wD false [] [] 0 false 0 [] (xs.map fun x=>x.w.d):=by
 show D.a [vB false,.s 1 [],.s 1 [],vI 0,vB false,.v (.int .u64 0),.s 6 [],.s 8 (W.ds (xs.map Sv.w))]=_;rw[W.h_,Xh0];rfl
theorem Ct {ps:List Int}{S M:Nat}{xs:List Sv}(hv:aK 6 ps=true)(hS1:1<=S)(hS:S<=1000)(h:gY S M ps xs) :
  Ca E1 29 [.d (aT 6 ps),.d (wD false [] [] 0 false 0 [] (xs.map fun x=>x.w.d))] (dB true,none)/\Ca E1 85 [.d (.a [vB false,.s 1 [],.s 1 []])] (.d (.a [vB false,.s 1 [],.s 1 []]),none)/\Ca E1 86 [.d (.s 6 [])] (.d (.s 6 []),none):=by
 have hc:=Ca.ib (tF 6 ps (fV (xs.map Sv.w)) (yD hv) (Om hS (rg6 hv).1 h));rw[Ci hv h,kg]at hc;have t0:=Ca.ib (iI 0 (by have:=jJ;omega));rw[wG]at t0;obtain⟨_,p0,rfl⟩:=pM (PV.nil S) hS;exact⟨hc,t0,p0⟩
theorem wU {kk:Int}{ps:List Int}{S M:Nat}{xs:List Sv}(hv:aK kk ps=true)(hS1:1<=S)(hS:S<=1000)(h:gY S M (dW kk ps) xs):Ca E1 53 [.d (aT kk ps),.d (cO kk xs).d] (.d (cO kk xs).d,none):=by
 rcases oI hv h with ⟨hk,rfl,x,rfl,hx⟩|⟨rfl,a,b,x,y,rfl,rfl,ha,hb,hx,hy⟩|⟨rfl,a,b,c,x,y,z,rfl,rfl,ha,hb,hc,hx,hy,hz⟩
 ·rw[mk_one hk];exact nX hk hS1 hS hx
 ·obtain⟨f1,f2,f3⟩:=Ct hv hS1 hS h;obtain⟨K,hK,a0,a1,a2,b0,b1,p0,p1⟩:=((f1).j ((f2).j ((f3).j ((nX ha hS1 hS hx).j ((nX hb hS1 hS hy).j ((dO 6 [a,b] 0 0 rfl a rfl).j ((dO 6 [a,b] 1 1 rfl b rfl).any))))))).at 0;have e0:∀ l,cO 6 l=fV (l.map Sv.w):=fun _=>rfl
  rw[e0,kg];simp only[Qe2,Qc1]at*;obtain⟨xs,x1,x2,xc,xb,xu,xp,xq,ex⟩:=x.w.aN;obtain⟨ys,y1,y2,yc,yb,yu,yp,yq,ey⟩:=y.w.aN;simp only[ex,ey]at*;clear hK f1 f2 f3 e0 h hv hx hy ex ey;refine Ca.bP (n:=K+500) ?_;rw[av rfl (k53:E1.fn _=_) rfl];unfold wD aT at*;generalize LK .i64 []=l0 at*;simp only[show LK .i64 [a,b]=[vI a,vI b] from rfl]at*;simp (maxSteps:=500000) [aC,f53,a0,a1,a2,b0,b1,p0,p1,most,MB,wr2,wr3,ah.view]
 ·obtain⟨f1,f2,f3⟩:=Ct hv hS1 hS h;obtain⟨K,hK,a0,a1,a2,b0,b1,b2,p0,p1,p2⟩:=((f1).j ((f2).j ((f3).j ((nX ha hS1 hS hx).j ((nX hb hS1 hS hy).j ((nX hc hS1 hS hz).j ((dO 6 [a,b,c] 0 0 rfl a rfl).j ((dO 6 [a,b,c] 1 1 rfl b rfl).j ((dO 6 [a,b,c] 2 2 rfl c rfl).any))))))))).at 0;have e0:∀ l,cO 6 l=fV (l.map Sv.w):=fun _=>rfl
  rw[e0,kg];simp only[Qe2,Qc1]at*;obtain⟨xs,x1,x2,xc,xb,xu,xp,xq,ex⟩:=x.w.aN;obtain⟨ys,y1,y2,yc,yb,yu,yp,yq,ey⟩:=y.w.aN;obtain⟨zs,z1,z2,zc,zb,zu,zp,zq,ez⟩:=z.w.aN;simp only[ex,ey,ez]at*;clear hK f1 f2 f3 e0 h hv hx hy hz ex ey ez;refine Ca.bP (n:=K+500) ?_;rw[av rfl (k53:E1.fn _=_) rfl];unfold wD aT at*;generalize LK .i64 []=l0 at*;simp only[show LK .i64 [a,b,c]=[vI a,vI b,vI c] from rfl]at*;simp (maxSteps:=500000) [aC,f53,a0,a1,a2,b0,b1,b2,p0,p1,p2,most,MB,wr2,wr3,ah.view]
theorem RU (x:Rat):∃ s n d,(Sv.q x).w.d=wD s n d 0 false 0 [] []/\qD x=.a [vB s,.s 1 n,.s 1 d]:=⟨_,_,_,rfl,rfl⟩
theorem Ot {k:Int}(hk:single k=true){S M:Nat}(hS1:1<=S)(hS:S<=1000){x y:Sv}(hx:x.of k S M)(hy:y.of k S M){vw ww:W}(tx:Ca E1 53 [.d (aT k []),.d vw.d] (.d x.w.d,none))(ty:Ca E1 53 [.d (aT k []),.d ww.d] (.d y.w.d,none)) :
  Ca E1 19 [.d (aT k []),.d vw.d,.d ww.d] (.d (dF k x y).w.d,none):=by
 have tv:=Ca.ib (Ca.bP (fU 0 k []));rw[(ek hk).1]at tv;obtain⟨vs,Qg,Qh,vc,vb,vu,vp,vps,ev⟩:=vw.aN;obtain⟨ws,wl1,wl2,wc,wb,wu,wp,wps,ew⟩:=ww.aN;rw[ev]at tx ⊢;rw[ew]at ty ⊢;clear ev ew;rcases aO hk with rfl|rfl|rfl|rfl|rfl
 ·obtain⟨a,rfl,ha⟩:=wP hx;obtain⟨b,rfl,hb⟩:=wP hy;obtain⟨K,hK,a0,a1,a2,a3⟩:=((tv).j ((tx).j ((ty).j ((Ca.ib (Aq a b ae ae)).any)))).at 0;obtain⟨s1,n1,d1,e1,g1⟩:=RU a;obtain⟨s2,n2,d2,e2,g2⟩:=RU b;rw[pl1];obtain⟨s3,n3,d3,e3,g3⟩:=RU (a+b);rw[g1,g2,g3]at a3;rw[e1]at a1;rw[e2]at a2;rw[e3];clear hK tv tx ty;refine Ca.bP (n:=K+300) ?_;rw[av rfl (k19:E1.fn _=_) rfl]
  (try unfold wD at*)
  unfold aT at*;generalize LK .i64 []=l0 at*;simp[aC,f19,a0,a1,a2,a3]
 ·obtain⟨i,n,rfl,hn0,hn1,hin⟩:=wQ hx;obtain⟨j,m,rfl,hm0,hm1,hjm⟩:=wQ hy;obtain⟨K,hK,a0,a1,a2⟩:=((tv).j ((tx).j ((ty).any))).at 0;rw[U_];have hc1:∀ n,(Sv.c i n).w.d=wD false [] [] n i 0 [] []:=fun n=>rfl
  have hc2:∀ n,(Sv.c j n).w.d=wD false [] [] n j 0 [] []:=fun n=>rfl
  unfold nK;rw[hc1]at a1;rw[hc2]at a2
  by_cases h:m<n<;>cases i<;>cases j<;>(try obtain rfl:=hin rfl)<;>(try obtain rfl:=hjm rfl)<;>(try exact absurd h ae)<;>simp only[h,Xi2,Bool.not_false,Q31,Qr2,X41,Bool.or_true,Bool.true_or,Xc2,decide_true,decide_false,if_true,if_false,Qh1,hc1,hc2] <;>
  (clear hK tv tx ty;refine Ca.bP (n:=K+300) ?_;rw[av rfl (k19:E1.fn _=_) rfl];(try rw[hc1]);(try rw[hc2]);unfold wD aT at*;generalize LK .i64 []=l0 at*;simp[f19,a0,a1,a2,h])
 ·obtain⟨a,rfl,_,_,ha⟩:=wR hx;obtain⟨b,rfl,_,_,hb⟩:=wR hy;obtain⟨K,hK,a0,a1,a2,a3⟩:=((tv).j ((tx).j ((ty).j ((Ca.ib (IL a b ae ae)).any)))).at 0;obtain⟨s1,n1,d1,e1,g1⟩:=RU a;obtain⟨s2,n2,d2,e2,g2⟩:=RU b;have ep:=pl3 a b
  by_cases hab:a<b
  ·rw[ep,if_pos hab];rw[decide_eq_true hab,g1,g2]at a3;simp only[e1,e2]at a1 a2 ⊢;clear hK tv tx ty;refine Ca.bP (n:=K+300) ?_;rw[av rfl (k19:E1.fn _=_) rfl]
   (try unfold wD at*)
   unfold aT at*;generalize LK .i64 []=l0 at*;simp[aC,f19,a0,a1,a2,a3]
  ·rw[ep,if_neg hab];rw[decide_eq_false hab,g1,g2]at a3;simp only[e1,e2]at a1 a2 ⊢;clear hK tv tx ty;refine Ca.bP (n:=K+300) ?_;rw[av rfl (k19:E1.fn _=_) rfl]
   (try unfold wD at*)
   unfold aT at*;generalize LK .i64 []=l0 at*;simp[aC,f19,a0,a1,a2,a3]
 ·obtain⟨u,rfl,hu⟩:=wS hx;obtain⟨v,rfl,hv⟩:=wS hy;obtain⟨K,hK,a0,a1,a2⟩:=((tv).j ((tx).j ((ty).any))).at 0;rw[pl4];have hc1:∀ u,(Sv.s u).w.d=wD false [] [] 0 false u [] []:=fun u=>rfl
  rw[hc1]at a1;rw[hc1]at a2;rw[hc1];clear hK tv tx ty;refine Ca.bP (n:=K+300) ?_;rw[av rfl (k19:E1.fn _=_) rfl]
  (try unfold wD at*)
  unfold aT at*;generalize LK .i64 []=l0 at*;simp[aC,f19,a0,a1,a2]
 ·obtain⟨a,rfl,ha,la⟩:=wT hx;obtain⟨b,rfl,hb,lb⟩:=wT hy;obtain⟨K,hK,a0,a1,a2,a3⟩:=((tv).j ((tx).j ((ty).j ((Je hS1 hS ha hb).any)))).at 0;rw[pl5];simp only[UH]at a1 a2 ⊢;generalize gz a b=c at*;unfold aZ at*;generalize (a.map fun p=>qC p.1 p.2)=x1,(b.map fun p=>qC p.1 p.2)=x2,(c.map fun p=>qC p.1 p.2)=x3 at*;clear hK tv tx ty;refine Ca.bP (n:=K+300) ?_;rw[av rfl (k19:E1.fn _=_) rfl]
  (try unfold wD at*)
  unfold aT at*;generalize LK .i64 []=l0 at*;simp[aC,f19,a0,a1,a2,a3]
theorem wV {k:Int}(hk:single k=true){S M:Nat}(hS1:1<=S)(hS:S<=1000){x y:Sv}(hx:x.of k S M)(hy:y.of k S M) :
  Ca E1 19 [.d (aT k []),.d x.w.d,.d y.w.d] (.d (dF k x y).w.d,none):=Ot hk hS1 hS hx hy (nX hk hS1 hS hx) (nX hk hS1 hS hy)
theorem Vf {kk:Int}{ps:List Int}{S M:Nat}{xs ys:List Sv}(hv:aK kk ps=true)(hS1:1<=S)(hS:S<=1000)(hx:gY S M (dW kk ps) xs)(hy:gY S M (dW kk ps) ys){vw ww:W}(tx:Ca E1 53 [.d (aT kk ps),.d vw.d] (.d (cO kk xs).d,none))(ty:Ca E1 53 [.d (aT kk ps),.d ww.d] (.d (cO kk ys).d,none)) :
  Ca E1 19 [.d (aT kk ps),.d vw.d,.d ww.d] (.d (cO kk (bV (dW kk ps) xs ys)).d,none):=by
 have tv:=Ca.ib (Ca.bP (fU 0 kk ps));rw[hv]at tv;rcases oI hv hx with ⟨hk,rfl,x,rfl,h1⟩|⟨rfl,a,b,x1,x2,rfl,rfl,ha,hb,h1,h2⟩|⟨rfl,a,b,c,x1,x2,x3,rfl,rfl,ha,hb,hc,h1,h2,h3⟩
 ·have h6:=(ek hk).2;rcases oI hv hy with ⟨_,_,y,rfl,g1⟩|⟨h,_⟩|⟨h,_⟩
  ·unfold dW;rw[if_neg h6];rw[mk_one hk]at tx ty;show Ca E1 19 _ (.d (cO kk [dF kk x y]).d,none);rw[mk_one hk];exact Ot hk hS1 hS h1 g1 tx ty
  ·exact absurd h h6
  ·exact absurd h h6
 ·obtain⟨y1,y2,rfl,g1,g2⟩:∃ y1 y2,ys=[y1,y2]/\y1.of a S M/\y2.of b S M:=by
   have hl:=hy.1
   match ys,hl with
   | [y1,y2],_=>exact⟨y1,y2,rfl,hy.2 0 _ _ rfl rfl,hy.2 1 _ _ rfl rfl⟩
  obtain⟨K,hK,a0,a1,a2,b0,b1,p0,p1⟩:=((tv).j ((tx).j ((ty).j ((wV ha hS1 hS h1 g1).j ((wV hb hS1 hS h2 g2).j ((dO 6 [a,b] 0 0 rfl a rfl).j ((dO 6 [a,b] 1 1 rfl b rfl).any))))))).at 0;have e0:∀ l,cO 6 l=fV (l.map Sv.w):=fun _=>rfl
  have e1:bV (dW 6 [a,b]) [x1,x2] [y1,y2]=[dF a x1 y1,dF b x2 y2]:=rfl;rw[e1,e0,kg];rw[e0,kg]at a1 a2;obtain⟨vs,Qg,Qh,vc,vb,vu,vp,vps,ev⟩:=vw.aN;obtain⟨ws,wl1,wl2,wc,wb,wu,wp,wps,ew⟩:=ww.aN;rw[ev]at a1 ⊢;rw[ew]at a2 ⊢;clear tx ty ev ew;simp only[Qe2,Qc1]at*;generalize dF a x1 y1=z1,dF b x2 y2=z2 at*;obtain⟨xs1,xm1,xn1,xc1,xb1,xu1,xp1,xq1,Vg⟩:=x1.w.aN;obtain⟨xs2,xm2,xn2,xc2,xb2,xu2,xp2,xq2,Fg⟩:=x2.w.aN;obtain⟨ys1,ym1,yn1,yc1,yb1,yu1,yp1,yq1,Vh⟩:=y1.w.aN;obtain⟨ys2,ym2,yn2,yc2,yb2,yu2,yp2,yq2,Vi⟩:=y2.w.aN;obtain⟨UQ,zm1,zn1,zc1,zb1,zu1,zp1,zq1,Vj⟩:=z1.w.aN;obtain⟨zs2,zm2,zn2,zc2,zb2,zu2,zp2,zq2,JA⟩:=z2.w.aN;simp only[Vg,Fg,Vh,Vi,Vj,JA]at*;clear hK tv e0 e1 hx hy hv h1 g1 h2 g2 Vg Fg Vh Vi Vj JA;refine Ca.bP (n:=K+500) ?_;rw[av rfl (k19:E1.fn _=_) rfl];unfold wD aT at*;generalize LK .i64 []=l0 at*;simp only[show LK .i64 [a,b]=[vI a,vI b] from rfl]at*;simp (maxSteps:=500000) [aC,f19,a0,a1,a2,b0,b1,p0,p1,most,MB,wr2,wr3,ah.view]
 ·obtain⟨y1,y2,y3,rfl,g1,g2,g3⟩:∃ y1 y2 y3,ys=[y1,y2,y3]/\y1.of a S M/\y2.of b S M/\y3.of c S M:=by
   have hl:=hy.1
   match ys,hl with
   | [y1,y2,y3],_=>exact⟨y1,y2,y3,rfl,hy.2 0 _ _ rfl rfl,hy.2 1 _ _ rfl rfl,hy.2 2 _ _ rfl rfl⟩
  obtain⟨K,hK,a0,a1,a2,b0,b1,b2,p0,p1,p2⟩:=((tv).j ((tx).j ((ty).j ((wV ha hS1 hS h1 g1).j ((wV hb hS1 hS h2 g2).j ((wV hc hS1 hS h3 g3).j ((dO 6 [a,b,c] 0 0 rfl a rfl).j ((dO 6 [a,b,c] 1 1 rfl b rfl).j ((dO 6 [a,b,c] 2 2 rfl c rfl).any))))))))).at 0;have e0:∀ l,cO 6 l=fV (l.map Sv.w):=fun _=>rfl
  have e1:bV (dW 6 [a,b,c]) [x1,x2,x3] [y1,y2,y3]=[dF a x1 y1,dF b x2 y2,dF c x3 y3]:=rfl;rw[e1,e0,kg];rw[e0,kg]at a1 a2;obtain⟨vs,Qg,Qh,vc,vb,vu,vp,vps,ev⟩:=vw.aN;obtain⟨ws,wl1,wl2,wc,wb,wu,wp,wps,ew⟩:=ww.aN;rw[ev]at a1 ⊢;rw[ew]at a2 ⊢;clear tx ty ev ew;simp only[Qe2,Qc1]at*;generalize dF a x1 y1=z1,dF b x2 y2=z2,dF c x3 y3=z3 at*;obtain⟨xs1,xm1,xn1,xc1,xb1,xu1,xp1,xq1,Vg⟩:=x1.w.aN;obtain⟨xs2,xm2,xn2,xc2,xb2,xu2,xp2,xq2,Fg⟩:=x2.w.aN;obtain⟨xs3,xm3,xn3,xc3,xb3,xu3,xp3,xq3,Vk⟩:=x3.w.aN;obtain⟨ys1,ym1,yn1,yc1,yb1,yu1,yp1,yq1,Vh⟩:=y1.w.aN;obtain⟨ys2,ym2,yn2,yc2,yb2,yu2,yp2,yq2,Vi⟩:=y2.w.aN;obtain⟨ys3,ym3,yn3,yc3,yb3,yu3,yp3,yq3,ey3⟩:=y3.w.aN;obtain⟨UQ,zm1,zn1,zc1,zb1,zu1,zp1,zq1,Vj⟩:=z1.w.aN;obtain⟨zs2,zm2,zn2,zc2,zb2,zu2,zp2,zq2,JA⟩:=z2.w.aN;obtain⟨zs3,zm3,zn3,zc3,zb3,zu3,zp3,zq3,ez3⟩:=z3.w.aN;simp only[Vg,Fg,Vk,Vh,Vi,ey3,Vj,JA,ez3]at*;clear hK tv e0 e1 hx hy hv h1 g1 h2 g2 h3 g3 Vg Fg Vk Vh Vi ey3 Vj JA ez3;refine Ca.bP (n:=K+500) ?_;rw[av rfl (k19:E1.fn _=_) rfl];unfold wD aT at*;generalize LK .i64 []=l0 at*;simp only[show LK .i64 [a,b,c]=[vI a,vI b,vI c] from rfl]at*;simp (maxSteps:=500000) [aC,f19,a0,a1,a2,b0,b1,b2,p0,p1,p2,most,MB,wr2,wr3,ah.view]
theorem JB {kk:Int}{ps:List Int}{S M:Nat}{xs ys:List Sv}(hv:aK kk ps=true)(hS1:1<=S)(hS:S<=1000)(hx:gY S M (dW kk ps) xs)(hy:gY S M (dW kk ps) ys) :
  Ca E1 19 [.d (aT kk ps),.d (cO kk xs).d,.d (cO kk ys).d] (.d (cO kk (bV (dW kk ps) xs ys)).d,none):=Vf hv hS1 hS hx hy (wU hv hS1 hS hx) (wU hv hS1 hS hy)
theorem tV {k:Int}(hk:single k=true):Ca E1 35 [.d (aT k [])] (.d (dH k).w.d,none):=by
 have tv:=Ca.ib (Ca.bP (fU 0 k []));rw[(ek hk).1]at tv;have e2:∀ b,W.d (.mk false [] [] 0 b 0 [] [])=wD false [] [] 0 b 0 [] []:=fun _=>rfl
 have eq0:(Sv.q 0).w.d=wD false [] [] 0 false 0 [] []:=by
  have h:=wG;obtain⟨s,n,d,e1,g1⟩:=RU 0;rw[e1];rw[g1]at h;simp only[D.a.injEq,Xr2,D.v.injEq,Value.bool.injEq,D.s.injEq,true_and,and_true]at h;obtain⟨rfl,rfl,rfl⟩:=h;rfl
 have e:(dH k).w.d=wD false [] [] 0 (k==2) 0 [] []:=by
  rcases aO hk with rfl|rfl|rfl|rfl|rfl
  ·exact eq0
  ·exact e2 _
  ·exact eq0
  ·exact e2 _
  ·exact e2 _
 rw[e];obtain⟨m0,a0⟩:=(tv).any;clear e e2 eq0 tv;refine Ca.bP (n:=m0+300) ?_;replace a0:=a0 m0 ae;rw[av rfl (k35:E1.fn _=_) rfl];unfold wD aT at*;simp only[show LK .i64 []=[] from rfl]at*;rcases aO hk with rfl|rfl|rfl|rfl|rfl<;>simp[aC,f35,a0]
theorem AJ {kk:Int}{ps:List Int}(hv:aK kk ps=true):Ca E1 35 [.d (aT kk ps)] (.d (cO kk ((dW kk ps).map dH)).d,none):=by
 have h:gY 1 1 (dW kk ps) ((dW kk ps).map dH):=mF ae (aU hv);have tv:=Ca.ib (Ca.bP (fU 0 kk ps));rw[hv]at tv;have e0:∀ l,cO 6 l=fV (l.map Sv.w):=fun _=>rfl
 rcases oI hv h with ⟨hk,rfl,x,hxs,hx⟩|⟨rfl,a,b,x,y,rfl,hxs,ha,hb,hx,hy⟩|⟨rfl,a,b,c,x,y,z,rfl,hxs,ha,hb,hc,hx,hy,hz⟩
 ·rw[show dW kk []=[kk] from if_neg (ek hk).2,Qe2,Qc1,mk_one hk];exact tV hk
 ·clear h hxs;rw[show dW 6 [a,b]=[a,b] from rfl,e0,kg];simp only[Qe2,Qc1];obtain⟨K,hK,a0,b0,p0,b1,p1⟩:=(tv.j ((tV ha).j ((dO 6 [a,b] 0 0 rfl a rfl).j ((tV hb).j ((dO 6 [a,b] 1 1 rfl b rfl).any))))).at 0;obtain⟨s0,l0,r0,c0,i0,u0,o0,g0,e0x⟩:=(dH a).w.aN;obtain⟨s1,l1,r1,c1,i1,u1,o1,g1,e1x⟩:=(dH b).w.aN;simp only[e0x,e1x]at*;clear hK tv e0 hv hx hy e0x e1x;refine Ca.bP (n:=K+500) ?_;rw[av rfl (k35:E1.fn _=_) rfl];unfold wD aT at*;generalize LK .i64 []=l0 at*;simp only[show LK .i64 [a,b]=[vI a,vI b] from rfl]at*;simp (maxSteps:=500000) [aC,f35,a0,b0,p0,b1,p1,most,MB,wr2,wr3,ah.view]
 ·clear h hxs;rw[show dW 6 [a,b,c]=[a,b,c] from rfl,e0,kg];simp only[Qe2,Qc1];obtain⟨K,hK,a0,b0,p0,b1,p1,b2,p2⟩:=(tv.j ((tV ha).j ((dO 6 [a,b,c] 0 0 rfl a rfl).j ((tV hb).j ((dO 6 [a,b,c] 1 1 rfl b rfl).j ((tV hc).j ((dO 6 [a,b,c] 2 2 rfl c rfl).any))))))).at 0;obtain⟨s0,l0,r0,c0,i0,u0,o0,g0,e0x⟩:=(dH a).w.aN;obtain⟨s1,l1,r1,c1,i1,u1,o1,g1,e1x⟩:=(dH b).w.aN;obtain⟨s2,l2,r2,c2,i2,u2,o2,g2,e2x⟩:=(dH c).w.aN;simp only[e0x,e1x,e2x]at*;clear hK tv e0 hv hx hy hz e0x e1x e2x;refine Ca.bP (n:=K+500) ?_;rw[av rfl (k35:E1.fn _=_) rfl];unfold wD aT at*;generalize LK .i64 []=l0 at*;simp only[show LK .i64 [a,b,c]=[vI a,vI b,vI c] from rfl]at*;simp (maxSteps:=500000) [aC,f35,a0,b0,p0,b1,p1,b2,p2,most,MB,wr2,wr3,ah.view]
end Fi.S
