import Derived.Test.YtkekcmgkpdkieaaGreatDoorCO
set_option linter.unusedVariables false
set_option linter.unusedSimpArgs false
noncomputable section
namespace Fi.S
open Go Fi
set_option maxHeartbeats 1000000
theorem RO (a b:gp):iO a b=iO b a:=by simp[iO,Int.add_comm]
theorem NM (a b c:gp):iO (iO a b) c=iO a (iO b c):=by simp[iO,Int.add_assoc]
theorem RP {S:Nat}(hS:1<=S){a b:List bz}(ha:PV S a)(hb:PV S b):gN a b=gN b a :=
 PV.ext (gY hS hS ha hb) (gY hS hS hb ha) (fun e=>by rw[j4,j4];grind)
theorem NN {S:Nat}(hS:1<=S){a b c:List bz}(ha:PV S a)(hb:PV S b)(hc:PV S c):gN (gN a b) c=gN a (gN b c) :=
 PV.ext (gY ae hS (gY hS hS ha hb) hc) (gY hS ae ha (gY hS hS hb hc)) (fun e=>by simp only[j4];grind)
theorem WE {S:Nat}(hS:1<=S){a:List bz}(ha:PV S a):gN a []=a :=
 PV.ext (gY hS hS ha (PV.nil S)) ha (fun e=>by rw[j4];simp only[tot];grind)
def cv (a:List bz)(f:gp->Rat)(e:gp):Rat:=match a with
 | []=>0
 | p::r=>p.2*f (e.1-p.1.1,e.2.1-p.1.2.1,e.2.2-p.1.2.2)+cv r f e
def DK (e a:gp):gp:=(e.1-a.1,e.2.1-a.2.1,e.2.2-a.2.2)
theorem PT (a b e:gp):iO a b=e↔b=DK e a:=by
 obtain⟨a1,a2,a3⟩:=a;obtain⟨b1,b2,b3⟩:=b;obtain⟨e1,e2,e3⟩:=e;simp only[iO,DK,Qo0];omega
theorem Gd (p:bz)(e:gp):∀ b:List bz,tot (bW p b) e=p.2*tot b (DK e p.1)
 | []=>by simp only[bW,Qc2,tot];grind
 | q::r=>by
  have ih:=Gd p e r;have h1:bW p (q::r)=(iO p.1 q.1,p.2*q.2)::bW p r:=rfl;obtain⟨qe,y⟩:=q;rw[h1];simp only[tot,ih]
  by_cases h:iO p.1 qe=e
  ·rw[if_pos h,if_pos ((PT _ _ _).1 h)];grind
  ·rw[if_neg h,if_neg (fun h2=>h ((PT _ _ _).2 h2))];grind
theorem iC (b:List bz)(e:gp):∀ a:List bz,tot (bG a b) e=cv a (tot b) e
 | []=>rfl
 | p::a=>by
  have h1:bG (p::a) b=bW p b++bG a b:=by simp[bG]
  rw[h1,jJ,iC b e a,Gd];rfl
theorem DL (l:List bz)(e:gp):tot (l.filter fun p=>bT p.1) e=if bT e=true then tot l e else 0:=by
 induction l with
 | nil=>simp[tot]
 | cons p r ih =>
  obtain⟨a,y⟩:=p
  by_cases h:bT a=true
  ·rw[Q72 (p:=fun p:bz=>bT p.1) h];simp only[tot,ih]
   by_cases h2:a=e
   ·subst h2;simp[h]
   ·simp only[if_neg h2];split<;>grind
  ·rw[Q71 (p:=fun p:bz=>bT p.1) h,ih];simp only[tot]
   by_cases h2:a=e
   ·subst h2;simp[h]
   ·simp only[if_neg h2];split<;>grind
theorem mQ (a b:List bz)(e:gp):tot (iX a b) e=if bT e=true then cv a (tot b) e else 0:=by
 rw[xP,<-mO,DL,iC]
theorem WG (f g:gp->Rat)(e:gp):∀ a,cv a (fun x=>f x+g x) e=cv a f e+cv a g e
 | []=>by simp only[cv];grind
 | p::a=>by simp only[cv,WG f g e a];grind
theorem lG (e:gp):∀ a b:List bz,tot (bG a b) e=tot (bG b a) e:=by
 have akj:∀ a:List bz,bG a []=[]:=fun a=>by
  induction a with
  | nil=>rfl
  | cons p r ih =>
   have h1:bG (p::r) []=bW p []++bG r []:=by simp[bG]
   rw[h1,ih];rfl
 have ahS:∀ (q:bz) (b a:List bz),tot (bG a (q::b)) e=tot (bW q a) e+tot (bG a b) e:=by
  intro q b a
  induction a with
  | nil=>simp only[bG,bW,List.flatMap_nil,Qc2,tot];grind
  | cons p r ih =>
   have h1:bG (p::r) (q::b)=bW p (q::b)++bG r (q::b):=by simp[bG]
   have h2:bG (p::r) b=bW p b++bG r b:=by simp[bG]
   have h3:bW p (q::b)=(iO p.1 q.1,p.2*q.2)::bW p b:=rfl;have h4:bW q (p::r)=(iO q.1 p.1,q.2*p.2)::bW q r:=rfl;rw[h1,h2,jJ,jJ,h3,h4,ih];simp only[tot,RO q.1 p.1];grind
 intro a
 induction a with
 | nil=>intro b;rw[akj];rfl
 | cons p r ih =>
  intro b;have h1:bG (p::r) b=bW p b++bG r b:=by simp[bG]
  rw[h1,jJ,ahS,ih]
theorem RQ {S:Nat}(hS:1<=S){a b:List bz}(ha:PV S a)(hb:PV S b):iX a b=iX b a :=
 PV.ext (iL hS ha hb) (iL hS hb ha) (fun e=>by
  rw[xP,xP,<-mO,<-mO,DL,DL,lG])
theorem WH {S:Nat}(hS:1<=S){a b c:List bz}(ha:PV S a)(hb:PV S b)(hc:PV S c):iX a (gN b c)=gN (iX a b) (iX a c):=by
 have h1:=gY hS hS hb hc;refine PV.ext (iL hS ha h1) (gY ae ae (iL hS ha hb) (iL hS ha hc)) (fun e => ?_);rw[j4,mQ,mQ,mQ];have h2:tot (gN b c)=fun x=>tot b x+tot c x:=by funext x;exact j4 b c x
 rw[h2,WG];split<;>grind
theorem AB (p:bz)(c:List bz):∀ b:List bz,bG (bW p b) c=bW p (bG b c)
 | []=>rfl
 | q::b=>by
  have h1:bW p (q::b)=(iO p.1 q.1,p.2*q.2)::bW p b:=rfl;have h2:∀ (x:bz) (r:List bz),bG (x::r) c=bW x c++bG r c:=fun x r=>by simp[bG]
  rw[h1,h2,h2,AB p c b];have h3:bW p (bW q c++bG b c)=bW p (bW q c)++bW p (bG b c):=by simp[bW]
  rw[h3]
  congr 1
  unfold bW;rw[Q60];refine Xb1 fun r _ => ?_
  simp only[Function.comp,NM,Rat.mul_assoc]
theorem AJ (b c:List bz):∀ a:List bz,bG (bG a b) c=bG a (bG b c)
 | []=>rfl
 | p::a=>by
  have h1:bG (p::a) b=bW p b++bG a b:=by simp[bG]
  have h2:bG (p::a) (bG b c)=bW p (bG b c)++bG a (bG b c):=by simp[bG]
  have h3:bG (bW p b++bG a b) c=bG (bW p b) c++bG (bG a b) c:=by simp[bG,X61]
  rw[h1,h2,h3,AB,AJ b c a]
theorem DN {f g:gp->Rat}{e:gp}:∀ {a:List bz},(∀ p ∈ a,f (DK e p.1)=g (DK e p.1))->cv a f e=cv a g e
 | [],_=>rfl
 | p::a,h=>by
  have h1:=h p (Qj2 ..);have h2:=DN (a:=a) (fun q hq=>h q (Qg2 _ hq));show p.2*f (DK e p.1)+cv a f e=p.2*g (DK e p.1)+cv a g e;rw[h1,h2]
theorem Gf {a b:List bz}(ha:Fits a)(hb:Fits b){c e:gp}(hc:bT c=true)(he:bT e=true):tot (iX a b) (DK e c)=tot (bG a b) (DK e c):=by
 rw[mQ,iC];split
 ·rfl
 ·rename_i hf;rw[<-iC];symm;refine lF fun x hx hxe => ?_
  obtain⟨p,hp,hx⟩:=X2.1 hx;obtain⟨q,hq,rfl⟩:=Qg1.1 hx;have h1:=fG (ha p hp);have h2:=fG (hb q hq);have h3:=fG hc;have h4:=fG he;apply hf;rw[VK,<-hxe];have h5:iO p.1 q.1=DK e c:=hxe;simp only[iO,DK,Qo0]at h5 ⊢;omega
theorem NP {S:Nat}(hS:1<=S){a b c:List bz}(ha:PV S a)(hb:PV S b)(hc:PV S c):iX (iX a b) c=iX a (iX b c):=by
 have h1:=iL hS ha hb;have h2:=iL hS hb hc;refine PV.ext (iL ae h1 hc) (iL hS ha h2) (fun e => ?_);rw[mQ,mQ];split
 ·rename_i he;rw[<-iC,lG,iC,DN (g:=tot (bG a b)) (fun p hp=>Gf ha.fits hb.fits (hc.fits p hp) he),<-iC,lG,AJ,iC];exact DN fun p hp=>(Gf hb.fits hc.fits (ha.fits p hp) he).symm
 ·rfl
theorem WI {S:Nat}(hS:1<=S){a:List bz}(ha:PV S a)(h1:PV S (cB 1)):iX a (cB 1)=a:=by
 refine PV.ext (iL hS ha h1) ha (fun e => ?_);have hc:cB 1=[((0,0,0),1)]:=if_neg dw;rw[mQ,<-iC,lG,hc,iC];have h2:cv [((0,0,0),(1:Rat))] (tot a) e=tot a e:=by
  simp only[cv];have h3:((e.1-0,e.2.1-0,e.2.2-0):gp)=e:=by
   obtain⟨x,y,z⟩:=e;simp
  rw[h3];grind
 rw[h2];split
 ·rfl
 ·rename_i hf;exact(lF fun p hp hpe=>hf (by rw[<-hpe];exact ha.fits p hp)).symm
theorem DR (x:BitVec 64):IntKind.wrap .u64 (x.toNat:Int)=(x.toNat:Int):=by
 have h:=x.isLt;rw[<-dh];exact wrap_u64 ae
theorem DT (u v:Int):Ci .u64 u v=((BitVec.ofInt 64 u ||| BitVec.ofInt 64 v).toNat:Int):=by
 rw[zn];exact DR _
theorem uP (u v:Int):oN .u64 u v=((BitVec.ofInt 64 u &&& BitVec.ofInt 64 v).toNat:Int):=by
 rw[BB];exact DR _
theorem DU (x:BitVec 64):BitVec.ofInt 64 (x.toNat:Int)=x:=aC
theorem acU {u:Int}(h:Bh u):((BitVec.ofInt 64 u).toNat:Int)=u:=by
 unfold Bh at h;rw[BitVec.toNat_ofInt];omega
theorem or_comm (u v:Int):Ci .u64 u v=Ci .u64 v u:=by rw[DT,DT,BitVec.or_comm]
theorem and_comm (u v:Int):oN .u64 u v=oN .u64 v u:=by rw[uP,uP,BitVec.and_comm]
theorem or_assoc (u v w:Int):Ci .u64 (Ci .u64 u v) w=Ci .u64 u (Ci .u64 v w):=by
 simp only[DT,DU,BitVec.or_assoc]
theorem and_assoc (u v w:Int):oN .u64 (oN .u64 u v) w=oN .u64 u (oN .u64 v w):=by
 simp only[uP,DU,BitVec.and_assoc]
theorem ae0 (u v w:Int):oN .u64 u (Ci .u64 v w)=Ci .u64 (oN .u64 u v) (oN .u64 u w):=by
 simp only[DT,uP,DU]
 congr 2
 ext i
 simp[Bool.and_or_distrib_left]
theorem or_zero {u:Int}(h:Bh u):Ci .u64 u 0=u:=by
 rw[DT];have h0:BitVec.ofInt 64 0=0#64:=rfl;rw[h0,BitVec.or_zero,acU h]
theorem and_ones {u:Int}(h:Bh u):oN .u64 u 18446744073709551615=u:=by
 rw[uP];have h0:BitVec.ofInt 64 18446744073709551615=BitVec.allOnes 64:=dw;rw[h0,BitVec.and_allOnes,acU h]
section
theorem xR {S M:Nat}{x:Sv}(h:x.of 1 S M):∃ q,x=.q q/\qz q<=S:=by
 cases x with
 | q x=>exact⟨x,rfl,h.2⟩
 | c i n=>exact absurd h.1 dw
 | s u=>exact absurd h.1 dw
 | p a=>exact absurd h.1 dw
theorem xS {S M:Nat}{x:Sv}(h:x.of 2 S M):∃ i n,x=.c i n/\0<=n/\n<=1099511627776/\(i=true->n=0):=by
 cases x with
 | c i n=>exact⟨i,n,rfl,h.2⟩
 | q x=>rcases h.1 with h | h;exact absurd h dw;exact absurd h.1 dw
 | s u=>exact absurd h.1 dw
 | p a=>exact absurd h.1 dw
theorem xU {S M:Nat}{x:Sv}(h:x.of 3 S M):∃ q,x=.q q/\0<=q/\q<=1/\qz q<=S:=by
 cases x with
 | q x =>
  rcases h.1 with h1|h1
  ·exact absurd h1 dw
  ·exact⟨x,rfl,h1.2.1,h1.2.2,h.2⟩
 | c i n=>exact absurd h.1 dw
 | s u=>exact absurd h.1 dw
 | p a=>exact absurd h.1 dw
theorem xV {S M:Nat}{x:Sv}(h:x.of 4 S M):∃ u,x=.s u/\Bh u:=by
 cases x with
 | s u=>exact⟨u,rfl,h.2⟩
 | q x=>rcases h.1 with h | h;exact absurd h dw;exact absurd h.1 dw
 | c i n=>exact absurd h.1 dw
 | p a=>exact absurd h.1 dw
theorem xW {S M:Nat}{x:Sv}(h:x.of 5 S M):∃ a,x=.p a/\PV S a/\a.length<=M:=by
 cases x with
 | p a=>exact⟨a,rfl,h.2⟩
 | q x=>rcases h.1 with h | h;exact absurd h dw;exact absurd h.1 dw
 | c i n=>exact absurd h.1 dw
 | s u=>exact absurd h.1 dw
def pM (k:Int):Sv:=if k=2 then .c false 0 else if k=4 then .s 18446744073709551615 else if k=5 then .p (cB 1) else .q 1
theorem aaX {k:Int}(hk:single k=true)(S M:Nat)(hS:1<=S)(hM:1<=M):(pM k).of k S M:=by
 rcases aQ hk with rfl|rfl|rfl|rfl|rfl
 ·exact⟨.inl rfl,Qd1 zA hS⟩
 ·exact⟨rfl,dw,dw,fun _=>rfl⟩
 ·exact⟨.inr ⟨rfl,dw,dw⟩,Qd1 zA hS⟩
 ·exact⟨rfl,dw,dw⟩
 ·exact⟨rfl,kN (Qd1 zA hS),Qd1 (zI 1) hM⟩
theorem Zh (x y:Rat):dJ 1 (.q x) (.q y)=.q (x+y):=rfl
theorem pl3 (x y:Rat):dJ 3 (.q x) (.q y)=.q (if x<y then y else x):=by
 show(if x<y then Sv.q y else .q x)=_;split<;>rfl
theorem RS (i j:Bool)(n m:Int):dJ 2 (.c i n) (.c j m)=if ou j m i n then .c j m else .c i n:=rfl
theorem pl4 (u v:Int):dJ 4 (.s u) (.s v)=.s (Ci .u64 u v):=rfl
theorem pl5 (a b:List bz):dJ 5 (.p a) (.p b)=.p (gN a b):=rfl
theorem Zi (x y:Rat):dz (.q x) (.q y)=.q (x*y):=rfl
theorem WJ (i j:Bool)(n m:Int):dz (.c i n) (.c j m)=if i||(j||decide (1099511627776<n+m)) then .c true 0 else .c false (n+m):=rfl
theorem ti4 (u v:Int):dz (.s u) (.s v)=.s (oN .u64 u v):=rfl
theorem ti5 (a b:List bz):dz (.p a) (.p b)=.p (iX a b):=rfl
section laws
variable {k:Int} {S M:Nat} {x y z:Sv}
theorem ae2 {a b:Rat}(ha:0<=a/\a<=1)(hb:0<=b/\b<=1):0<=a*b/\a*b<=1:=by
 have h1:0<=a*b:=Rat.mul_nonneg ha.1 hb.1;have h2:0<=a*(1-b):=Rat.mul_nonneg ha.1 (by grind);constructor
 ·exact h1
 ·grind
theorem WK (hk:single k=true)(hS:1<=S)(hM:1<=M)(hx:x.of k S M)(hy:y.of k S M):(dz x y).of k (M*(S+S+1)+1) (M*M):=by
 have hb:S+S<=M*(S+S+1)+1:=by
  have:=Qf0 (S+S+1) hM;omega
 rcases aQ hk with rfl|rfl|rfl|rfl|rfl
 ·obtain⟨a,rfl,ha⟩:=xR hx;obtain⟨b,rfl,hb'⟩:=xR hy;have:=Cw a b;exact⟨.inl rfl,show qz (a*b)<=_ by omega⟩
 ·obtain⟨i,n,rfl,h1,h2,h3⟩:=xS hx;obtain⟨j,m,rfl,g1,g2,g3⟩:=xS hy;rw[WJ];split
  ·exact⟨rfl,dw,dw,fun _=>rfl⟩
  ·rename_i h;simp at h;exact⟨rfl,ae,ae,fun h=>by cases h⟩
 ·obtain⟨a,rfl,a0,a1,ha⟩:=xU hx;obtain⟨b,rfl,b0,b1,hb'⟩:=xU hy;have:=Cw a b;exact⟨.inr ⟨rfl,ae2 ⟨a0,a1⟩ ⟨b0,b1⟩⟩,show qz (a*b)<=_ by omega⟩
 ·obtain⟨u,rfl,hu⟩:=xV hx;obtain⟨v,rfl,hv⟩:=xV hy;refine⟨rfl,?_⟩;show Bh (oN .u64 u v);rw[uP];have:=(BitVec.ofInt 64 u &&& BitVec.ofInt 64 v).isLt;unfold Bh;omega
 ·obtain⟨a,rfl,ha,la⟩:=xW hx;obtain⟨b,rfl,hb',lb⟩:=xW hy;refine⟨rfl,(iL hS ha hb').mono ?_,Qd1 (Av a b) (Q92 la lb)⟩;exact X42 (Qf0 _ la) 1
theorem RU (hk:single k=true)(hS:1<=S)(hx:x.of k S M)(hy:y.of k S M):dJ k x y=dJ k y x:=by
 rcases aQ hk with rfl|rfl|rfl|rfl|rfl
 ·obtain⟨a,rfl,_⟩:=xR hx;obtain⟨b,rfl,_⟩:=xR hy;rw[Zh,Zh,Rat.add_comm]
 ·obtain⟨i,n,rfl,h1,h2,h3⟩:=xS hx;obtain⟨j,m,rfl,g1,g2,g3⟩:=xS hy;rw[RS,RS];unfold ou;cases i<;>cases j<;>simp at*<;>(repeat' split)<;>simp_all<;>omega
 ·obtain⟨a,rfl,_⟩:=xU hx;obtain⟨b,rfl,_⟩:=xU hy;rw[pl3,pl3]
  congr 1
  split<;>split<;>grind
 ·obtain⟨u,rfl,_⟩:=xV hx;obtain⟨v,rfl,_⟩:=xV hy;rw[pl4,pl4,or_comm]
 ·obtain⟨a,rfl,ha,_⟩:=xW hx;obtain⟨b,rfl,hb,_⟩:=xW hy;rw[pl5,pl5,RP hS ha hb]
theorem NQ (hk:single k=true)(hS:1<=S)(hx:x.of k S M)(hy:y.of k S M):dz x y=dz y x:=by
 rcases aQ hk with rfl|rfl|rfl|rfl|rfl
 ·obtain⟨a,rfl,_⟩:=xR hx;obtain⟨b,rfl,_⟩:=xR hy;rw[Zi,Zi,Rat.mul_comm]
 ·obtain⟨i,n,rfl,h1,h2,h3⟩:=xS hx;obtain⟨j,m,rfl,g1,g2,g3⟩:=xS hy;rw[WJ,WJ,Int.add_comm m n];cases i<;>cases j<;>rfl
 ·obtain⟨a,rfl,_⟩:=xU hx;obtain⟨b,rfl,_⟩:=xU hy;rw[Zi,Zi,Rat.mul_comm]
 ·obtain⟨u,rfl,_⟩:=xV hx;obtain⟨v,rfl,_⟩:=xV hy;rw[ti4,ti4,and_comm]
 ·obtain⟨a,rfl,ha,_⟩:=xW hx;obtain⟨b,rfl,hb,_⟩:=xW hy;rw[ti5,ti5,RQ hS ha hb]
theorem NR (hk:single k=true)(hS:1<=S)(hx:x.of k S M)(hy:y.of k S M)(hz:z.of k S M):dJ k (dJ k x y) z=dJ k x (dJ k y z):=by
 rcases aQ hk with rfl|rfl|rfl|rfl|rfl
 ·obtain⟨a,rfl,_⟩:=xR hx;obtain⟨b,rfl,_⟩:=xR hy;obtain⟨c,rfl,_⟩:=xR hz;simp only[Zh,Rat.add_assoc]
 ·obtain⟨i,n,rfl,h1,h2,h3⟩:=xS hx;obtain⟨j,m,rfl,g1,g2,g3⟩:=xS hy;obtain⟨o,l,rfl,f1,f2,f3⟩:=xS hz;rw[RS,RS]
  by_cases a:ou j m i n=true<;>by_cases b:ou o l j m=true<;>simp only[a,b,if_true,if_false,Qi0,RS]<;>unfold ou at*<;>cases i<;>cases j<;>cases o<;>simp at*<;>(repeat' split)<;>simp_all<;>omega
 ·obtain⟨a,rfl,_⟩:=xU hx;obtain⟨b,rfl,_⟩:=xU hy;obtain⟨c,rfl,_⟩:=xU hz;simp only[pl3]
  congr 1
  repeat' split
  all_goals grind
 ·obtain⟨u,rfl,_⟩:=xV hx;obtain⟨v,rfl,_⟩:=xV hy;obtain⟨w,rfl,_⟩:=xV hz;simp only[pl4,or_assoc]
 ·obtain⟨a,rfl,ha,_⟩:=xW hx;obtain⟨b,rfl,hb,_⟩:=xW hy;obtain⟨c,rfl,hc,_⟩:=xW hz;simp only[pl5,NN hS ha hb hc]
theorem Kv (hk:single k=true)(hS:1<=S)(hx:x.of k S M)(hy:y.of k S M)(hz:z.of k S M):dz (dz x y) z=dz x (dz y z):=by
 rcases aQ hk with rfl|rfl|rfl|rfl|rfl
 ·obtain⟨a,rfl,_⟩:=xR hx;obtain⟨b,rfl,_⟩:=xR hy;obtain⟨c,rfl,_⟩:=xR hz;simp only[Zi,Rat.mul_assoc]
 ·obtain⟨i,n,rfl,h1,h2,h3⟩:=xS hx;obtain⟨j,m,rfl,g1,g2,g3⟩:=xS hy;obtain⟨o,l,rfl,f1,f2,f3⟩:=xS hz;rw[WJ,WJ]
  by_cases a:1099511627776<n+m<;>by_cases b:1099511627776<m+l<;>cases i<;>cases j<;>cases o<;>(try simp[a,b,WJ])<;>(try (repeat' split))<;>first|done|rfl|omega|(congr 1;omega)|(simp_all;omega)
 ·obtain⟨a,rfl,_⟩:=xU hx;obtain⟨b,rfl,_⟩:=xU hy;obtain⟨c,rfl,_⟩:=xU hz;simp only[Zi,Rat.mul_assoc]
 ·obtain⟨u,rfl,_⟩:=xV hx;obtain⟨v,rfl,_⟩:=xV hy;obtain⟨w,rfl,_⟩:=xV hz;simp only[ti4,and_assoc]
 ·obtain⟨a,rfl,ha,_⟩:=xW hx;obtain⟨b,rfl,hb,_⟩:=xW hy;obtain⟨c,rfl,hc,_⟩:=xW hz;simp only[ti5,NP hS ha hb hc]
theorem NS (hk:single k=true)(hS:1<=S)(hx:x.of k S M)(hy:y.of k S M)(hz:z.of k S M):dz x (dJ k y z)=dJ k (dz x y) (dz x z):=by
 rcases aQ hk with rfl|rfl|rfl|rfl|rfl
 ·obtain⟨a,rfl,_⟩:=xR hx;obtain⟨b,rfl,_⟩:=xR hy;obtain⟨c,rfl,_⟩:=xR hz;simp only[Zi,Zh,Rat.mul_add]
 ·obtain⟨i,n,rfl,h1,h2,h3⟩:=xS hx;obtain⟨j,m,rfl,g1,g2,g3⟩:=xS hy;obtain⟨o,l,rfl,f1,f2,f3⟩:=xS hz;rw[WJ,WJ,RS]
  by_cases a:1099511627776<n+m<;>by_cases b:1099511627776<n+l<;>by_cases c:l<m<;>cases i<;>cases j<;>cases o<;>(try simp[a,b,c,WJ,RS,ou])<;>(try (repeat' split))<;>first|done|rfl|omega|(congr 1;omega)|(simp_all;omega)
 ·obtain⟨a,rfl,a0,a1,_⟩:=xU hx;obtain⟨b,rfl,_⟩:=xU hy;obtain⟨c,rfl,_⟩:=xU hz;simp only[Zi,pl3]
  congr 1
  split
  ·rename_i h;have h1:0<=a*(c-b):=Rat.mul_nonneg a0 (by grind);split
   ·rfl
   ·grind
  ·rename_i h;have h1:0<=a*(b-c):=Rat.mul_nonneg a0 (by grind);split
   ·grind
   ·rfl
 ·obtain⟨u,rfl,_⟩:=xV hx;obtain⟨v,rfl,_⟩:=xV hy;obtain⟨w,rfl,_⟩:=xV hz;simp only[ti4,pl4,ae0]
 ·obtain⟨a,rfl,ha,_⟩:=xW hx;obtain⟨b,rfl,hb,_⟩:=xW hy;obtain⟨c,rfl,hc,_⟩:=xW hz;simp only[ti5,pl5,WH hS ha hb hc]
theorem RV (hk:single k=true)(hS:1<=S)(hx:x.of k S M):dJ k x (dP k)=x:=by
 rcases aQ hk with rfl|rfl|rfl|rfl|rfl
 ·obtain⟨a,rfl,_⟩:=xR hx;show Sv.q (a+0)=_;rw[Rat.add_zero]
 ·obtain⟨i,n,rfl,h1,h2,h3⟩:=xS hx;show(if ou true 0 i n then Sv.c true 0 else .c i n)=_;rfl
 ·obtain⟨a,rfl,a0,_⟩:=xU hx;show dJ 3 (.q a) (.q 0)=_;rw[pl3,if_neg (by grind)]
 ·obtain⟨u,rfl,hu⟩:=xV hx;show Sv.s (Ci .u64 u 0)=_;rw[or_zero hu]
 ·obtain⟨a,rfl,ha,_⟩:=xW hx;show Sv.p (gN a [])=_;rw[WE hS ha]
theorem RX (hk:single k=true)(hS:1<=S)(hx:x.of k S M):dz x (pM k)=x:=by
 rcases aQ hk with rfl|rfl|rfl|rfl|rfl
 ·obtain⟨a,rfl,_⟩:=xR hx;show Sv.q (a*1)=_;rw[Rat.mul_one]
 ·obtain⟨i,n,rfl,h1,h2,h3⟩:=xS hx;show(if i||(false||decide (1099511627776<n+0)) then Sv.c true 0 else .c false (n+0))=_;cases i
  ·have:¬ 1099511627776<n+0:=ae;simp[this];omega
  ·rw[h3 rfl];rfl
 ·obtain⟨a,rfl,_⟩:=xU hx;show Sv.q (a*1)=_;rw[Rat.mul_one]
 ·obtain⟨u,rfl,hu⟩:=xV hx;show Sv.s (oN .u64 u 18446744073709551615)=_;rw[and_ones hu]
 ·obtain⟨a,rfl,ha,_⟩:=xW hx;show Sv.p (iX a (cB 1))=_;rw[WI hS ha (kN (Qd1 zA hS))]
end laws
end
set_option maxHeartbeats 8000000
section
def dN (kk:Int)(ps:List Int):List Int:=if kk=6 then ps else [kk]
def bV (kk:Int)(xs:List Sv):W:=if kk=6 then gz (xs.map Sv.w) else(xs.headD (.q 0)).w
noncomputable def bS (xs ys:List Sv):List Sv:=(xs.zip ys).map fun p=>dz p.1 p.2
theorem aY {kk:Int}{ps:List Int}(h:aM kk ps=true):∀ k ∈ dN kk ps,single k=true:=by
 unfold dN;split
 ·rename_i h6;subst h6;exact(rg6 h).2.2
 ·rename_i h6;unfold aM at h;rw[if_pos h6]at h;simp only[Qc1]at h;intro k hk;rw[Q02]at hk;subst hk;exact h.1
theorem eH {xs ys:List Sv}{i:Nat}{z:Sv}(h:(bS xs ys)[i]?=some z):∃ x y,xs[i]?=some x/\ys[i]?=some y/\z=dz x y:=by
 unfold bS at h;rw[Qc0,Qf2]at h;obtain⟨⟨x,y⟩,h1,rfl⟩:=h;rw[Q00]at h1;exact⟨x,y,h1.1,h1.2,rfl⟩
theorem NT {S M:Nat}(hS:1<=S)(hM:1<=M){ks:List Int}(hs:∀ k ∈ ks,single k=true){xs ys:List Sv}(hx:iB S M ks xs)(hy:iB S M ks ys):iB (M*(S+S+1)+1) (M*M) ks (bS xs ys):=by
 refine⟨by simp[bS,hx.1,hy.1],fun i k z hk hz => ?_⟩;obtain⟨x,y,h2,h3,rfl⟩:=eH hz;exact WK (hs k (Qa2 hk)) hS hM (hx.2 i k x hk h2) (hy.2 i k y hk h3)
theorem iB.mono {S T M M':Nat}{ks:List Int}{xs:List Sv}(h:iB S M ks xs)(hST:S<=T)(hM:M<=M'):iB T M' ks xs:=⟨h.1,fun i k x hk hx=>(h.2 i k x hk hx).mono hST hM⟩
theorem mR {ks:List Int}{l m:List Sv}(hl:l.length=ks.length)(hm:m.length=ks.length)(h:∀ (i:Nat) (k:Int) (x y:Sv),ks[i]?=some k->l[i]?=some x->m[i]?=some y->x=y):l=m:=by
 refine List.ext_getElem ae (fun i h1 h2 => ?_);exact h i (ks[i]'(by omega)) _ _ (Qa1 ae) (Qa1 h1) (Qa1 h2)
theorem cZ {α:Type}{l:List α}{i:Nat}{x y:α}(h1:l[i]?=some x)(h2:l[i]?=some y):x=y:=by
 rw[h1]at h2;exact Q10 h2
section laws
variable {S M:Nat} {ks:List Int} {xs ys zs:List Sv}
theorem je (hx:xs.length=ks.length)(hy:ys.length=ks.length):(bO ks xs ys).length=ks.length:=by simp[bO,hx,hy]
theorem eZ (hx:xs.length=ks.length)(hy:ys.length=ks.length):(bS xs ys).length=ks.length:=by simp[bS,hx,hy]
theorem NU (hS:1<=S)(hs:∀ k ∈ ks,single k=true)(hx:iB S M ks xs)(hy:iB S M ks ys):bO ks xs ys=bO ks ys xs:=by
 refine mR (je hx.1 hy.1) (je hy.1 hx.1) (fun i k u v hk hu hv => ?_);obtain⟨k1,x,y,a1,a2,a3,rfl⟩:=g_ hu;obtain⟨k2,y',x',b1,b2,b3,rfl⟩:=g_ hv;obtain rfl:=cZ hk a1;obtain rfl:=cZ hk b1;obtain rfl:=cZ a2 b3;obtain rfl:=cZ a3 b2;exact RU (hs k (Qa2 hk)) hS (hx.2 i k _ hk a2) (hy.2 i k _ hk a3)
theorem Kw (hS:1<=S)(hs:∀ k ∈ ks,single k=true)(hx:iB S M ks xs)(hy:iB S M ks ys):bS xs ys=bS ys xs:=by
 refine mR (eZ hx.1 hy.1) (eZ hy.1 hx.1) (fun i k u v hk hu hv => ?_);obtain⟨x,y,a2,a3,rfl⟩:=eH hu;obtain⟨y',x',b2,b3,rfl⟩:=eH hv;obtain rfl:=cZ a2 b3;obtain rfl:=cZ a3 b2;exact NQ (hs k (Qa2 hk)) hS (hx.2 i k _ hk a2) (hy.2 i k _ hk a3)
theorem Ky (hS:1<=S)(hs:∀ k ∈ ks,single k=true)(hx:iB S M ks xs)(hy:iB S M ks ys)(hz:iB S M ks zs):bO ks (bO ks xs ys) zs=bO ks xs (bO ks ys zs):=by
 refine mR (je (je hx.1 hy.1) hz.1) (je hx.1 (je hy.1 hz.1)) (fun i k u v hk hu hv => ?_);obtain⟨k1,t,z,a1,a2,a3,rfl⟩:=g_ hu;obtain⟨k2,x,y,c1,c2,c3,rfl⟩:=g_ a2;obtain⟨k3,x',t',b1,b2,b3,rfl⟩:=g_ hv;obtain⟨k4,y',z',d1,d2,d3,rfl⟩:=g_ b3;obtain rfl:=cZ hk a1;obtain rfl:=cZ hk b1;obtain rfl:=cZ hk c1;obtain rfl:=cZ hk d1;obtain rfl:=cZ c2 b2;obtain rfl:=cZ c3 d2;obtain rfl:=cZ a3 d3;exact NR (hs k (Qa2 hk)) hS (hx.2 i k _ hk c2) (hy.2 i k _ hk c3) (hz.2 i k _ hk a3)
theorem Ie (hS:1<=S)(hs:∀ k ∈ ks,single k=true)(hx:iB S M ks xs)(hy:iB S M ks ys)(hz:iB S M ks zs):bS (bS xs ys) zs=bS xs (bS ys zs):=by
 refine mR (eZ (eZ hx.1 hy.1) hz.1) (eZ hx.1 (eZ hy.1 hz.1)) (fun i k u v hk hu hv => ?_);obtain⟨t,z,a2,a3,rfl⟩:=eH hu;obtain⟨x,y,c2,c3,rfl⟩:=eH a2;obtain⟨x',t',b2,b3,rfl⟩:=eH hv;obtain⟨y',z',d2,d3,rfl⟩:=eH b3;obtain rfl:=cZ c2 b2;obtain rfl:=cZ c3 d2;obtain rfl:=cZ a3 d3;exact Kv (hs k (Qa2 hk)) hS (hx.2 i k _ hk c2) (hy.2 i k _ hk c3) (hz.2 i k _ hk a3)
theorem Kz (hS:1<=S)(hs:∀ k ∈ ks,single k=true)(hx:iB S M ks xs)(hy:iB S M ks ys)(hz:iB S M ks zs):bS xs (bO ks ys zs)=bO ks (bS xs ys) (bS xs zs):=by
 refine mR (eZ hx.1 (je hy.1 hz.1)) (je (eZ hx.1 hy.1) (eZ hx.1 hz.1)) (fun i k u v hk hu hv => ?_);obtain⟨x,t,a2,a3,rfl⟩:=eH hu;obtain⟨k2,y,z,c1,c2,c3,rfl⟩:=g_ a3;obtain⟨k3,s,t',b1,b2,b3,rfl⟩:=g_ hv;obtain⟨x',y',d2,d3,rfl⟩:=eH b2;obtain⟨x'',z',e2,e3,rfl⟩:=eH b3;obtain rfl:=cZ hk b1;obtain rfl:=cZ hk c1;obtain rfl:=cZ a2 d2;obtain rfl:=cZ a2 e2;obtain rfl:=cZ c2 d3;obtain rfl:=cZ c3 e3;exact NS (hs k (Qa2 hk)) hS (hx.2 i k _ hk a2) (hy.2 i k _ hk c2) (hz.2 i k _ hk c3)
theorem oP {f:Int->Sv}{i:Nat}{k:Int}{z:Sv}(hk:ks[i]?=some k)(h:(ks.map f)[i]?=some z):z=f k:=by
 rw[Qc0,hk]at h;exact(Q10 h).symm
theorem DV (hS:1<=S)(hs:∀ k ∈ ks,single k=true)(hx:iB S M ks xs):bO ks xs (ks.map dP)=xs:=by
 refine mR (je hx.1 aC) hx.1 (fun i k u v hk hu hv => ?_);obtain⟨k1,x,y,a1,a2,a3,rfl⟩:=g_ hu;obtain rfl:=cZ hk a1;obtain rfl:=cZ a2 hv;rw[oP hk a3];exact RV (hs k (Qa2 hk)) hS (hx.2 i k _ hk a2)
theorem NV (hS:1<=S)(hs:∀ k ∈ ks,single k=true)(hx:iB S M ks xs):bS xs (ks.map pM)=xs:=by
 refine mR (eZ hx.1 aC) hx.1 (fun i k u v hk hu hv => ?_);obtain⟨x,y,a2,a3,rfl⟩:=eH hu;obtain rfl:=cZ a2 hv;rw[oP hk a3];exact RX (hs k (Qa2 hk)) hS (hx.2 i k _ hk a2)
theorem KA (hs:∀ k ∈ ks,single k=true)(hx:iB S M ks xs):bS xs (ks.map dP)=ks.map dP:=by
 refine mR (eZ hx.1 aC) aC (fun i k u v hk hu hv => ?_);obtain⟨x,y,a2,a3,rfl⟩:=eH hu;rw[oP hk a3,oP hk hv];exact NH (hs k (Qa2 hk)) (hx.2 i k _ hk a2)
theorem nC (hS:1<=S)(hs:∀ k ∈ ks,single k=true):iB S M ks (ks.map dP):=⟨aC,fun i k x hk hx=>by rw[oP hk hx];exact Ws (hs k (Qa2 hk)) S M hS⟩
theorem KC (hS:1<=S)(hM:1<=M)(hs:∀ k ∈ ks,single k=true):iB S M ks (ks.map pM):=⟨aC,fun i k x hk hx=>by rw[oP hk hx];exact aaX (hs k (Qa2 hk)) S M hS hM⟩
end laws
section ring
variable {kk:Int} {ps:List Int} {S M:Nat} {xs ys:List Sv}
theorem tF {k:Int}(h:iB S M [k] xs):∃ x,xs=[x]/\x.of k S M:=by
 match xs,h with
 | [x],h=>exact⟨x,rfl,h.2 0 k x rfl rfl⟩
 | [],h=>simp[iB]at h
 | _::_::_,h=>simp[iB]at h
theorem uQ (h:aM kk ps=true)(h6:kk≠6):ps=[]/\single kk=true:=by
 unfold aM at h;rw[if_pos h6]at h;simp only[Qc1,decide_eq_true_eq]at h;exact⟨h.2,h.1⟩
theorem KD (hv:aM kk ps=true)(hS:S<=1000)(h:iB S M (dN kk ps) xs):(bV kk xs).OK:=by
 unfold bV
 by_cases h6:kk=6
 ·subst h6;rw[if_pos rfl];unfold dN at h;rw[if_pos rfl]at h;exact PS hS (rg6 hv).1 h
 ·rw[if_neg h6];unfold dN at h;rw[if_neg h6]at h;obtain⟨x,rfl,hx⟩:=tF h;exact Wv hx hS
theorem DW (hv:aM kk ps=true)(h:iB S M (dN kk ps) xs):di kk ps (bV kk xs)=true:=by
 unfold bV
 by_cases h6:kk=6
 ·subst h6;rw[if_pos rfl];unfold dN at h;rw[if_pos rfl]at h;exact DJ hv h
 ·rw[if_neg h6];unfold dN at h;rw[if_neg h6]at h;obtain⟨x,rfl,hx⟩:=tF h;unfold di;rw[hv,if_pos h6];exact Wu hx
theorem tH (hv:aM kk ps=true):ps.length<=1000000:=by
 by_cases h6:kk=6
 ·subst h6;have:=(rg6 hv).1;omega
 ·rw[(uQ hv h6).1];simp
theorem KE (hv:aM kk ps=true)(hS:S<=1000)(h:iB S M (dN kk ps) xs):Ca E1 41 [.d (aV kk ps),.d (bV kk xs).d] (.d (bV kk xs).d,none) :=
 Ic (tH hv) (KD hv hS h) (DW hv h)
theorem PU (hv:aM kk ps=true)(hS:S<=1000)(hM:(M+M)*(S+1)<=50000)(hx:iB S M (dN kk ps) xs)(hy:iB S M (dN kk ps) ys) :
  Ca E1 14 [.d (aV kk ps),.d (bV kk xs).d,.d (bV kk ys).d] (.d (bV kk (bO (dN kk ps) xs ys)).d,none):=by
 have vx:=KE hv hS hx;have vy:=KE hv hS hy;unfold bV dN at*
 by_cases h6:kk=6
 ·subst h6;simp only[if_true]at*;exact NL hS hM hv _ _ hx hy vx vy
 ·simp only[if_neg h6]at*;obtain⟨rfl,hs⟩:=uQ hv h6;obtain⟨x,rfl,hx'⟩:=tF hx;obtain⟨y,rfl,hy'⟩:=tF hy;exact Wp hs _ _ _ _ _ vx vy (Kr hs hS hM hx' hy')
theorem aaY (hv:aM kk ps=true)(hS:S<=1000)(h:iB S M (dN kk ps) xs):Ca E1 12 [.d (bV kk xs).d,.d (bV kk xs).d] (dB true,none):=by
 have hok:=KD hv hS h;have:=pE _ hok _ hok;rw[W.BJ]at this;exact Ca.gV this
end ring
end
end Fi.S
noncomputable section
namespace Fi.S
open Go Fi
set_option maxHeartbeats 8000000
set_option maxRecDepth 10000
theorem WL {k:Int}(hk:single k=true):(pM k).w.d=Ig k:=by
 have h1:qs 1=false:=dw;have h2:qn 1=[1]:=by
  show enc 1=[1]
  exact jQ ae ae
 have h3:qd 1=[]:=if_pos rfl;have hc:cB 1=[((0,0,0),1)]:=if_neg dw;rcases aQ hk with rfl|rfl|rfl|rfl|rfl
 ·simp[pM,Ig,Sv.w,W.d,W.ds,PD,LD,LL,h1,h2,h3]
 ·simp[pM,Ig,Sv.w,W.d,W.ds,PD,LD,LL]
 ·simp[pM,Ig,Sv.w,W.d,W.ds,PD,LD,LL,h1,h2,h3]
 ·simp[pM,Ig,Sv.w,W.d,W.ds,PD,LD,LL]
 ·simp[pM,Ig,Sv.w,W.d,W.ds,PD,LD,LL,hc,vK,Mo.d,h1,h2,h3,KF]
theorem ae3 {kk:Int}{ps:List Int}(h:aM kk ps=true):(bV kk ((dN kk ps).map pM)).d=Gb kk ps:=by
 have hs:=aY h;unfold bV dN Gb at*
 by_cases h6:kk=6
 ·subst h6;simp only[if_true]at*;have:W.ds ((ps.map pM).map Sv.w)=ps.map Ig:=by
   rw[W.iF,Q60,Q60];exact Xb1 fun x hx=>WL (hs x hx)
  show D.a [vB false,.s 1 [],.s 1 [],vI 0,vB false,.v (.int .u64 0),.s 6 [],.s 8 (W.ds ((ps.map pM).map Sv.w))]=_;rw[this]
 ·simp only[if_neg h6]at*;exact WL (hs kk aC)
theorem NW (k:Int):(tC k=6/\(Az k=[1,2]\/Az k=[3,4,5]))\/((tC k=1\/tC k=2\/tC k=3\/tC k=4\/tC k=5)/\Az k=[]):=by
 have h1:=Qp0 k (show(7:Int)≠0 by omega);have h2:=Qm0 k (show(0:Int)<7 by omega);unfold tC Az
 by_cases h5:k % 7=5
 ·left;rw[if_pos (.inl h5),if_pos h5];exact⟨rfl,.inl rfl⟩
 ·by_cases h6:k % 7=6
  ·left;rw[if_pos (.inr h6),if_neg h5,if_pos h6];exact⟨rfl,.inr rfl⟩
  ·right
   rw[if_neg (by rintro(h|h)<;>contradiction),if_neg h5,if_neg h6];exact⟨ae,rfl⟩
theorem NY (k:Int):aM (tC k) (Az k)=true:=by
 rcases NW k with ⟨h1,h2|h2⟩|⟨h1|h1|h1|h1|h1,h2⟩<;>rw[h1,h2]<;>decide
theorem aaZ {kk:Int}{ps:List Int}(h:aM kk ps=true):Ca E1 27 [.d (aV kk ps)] (.d (bV kk ((dN kk ps).map pM)).d,none)/\Ca E1 20 [.d (aV kk ps)] (.d (bV kk ((dN kk ps).map pM)).d,none):=by
 rw[ae3 h];exact aaU h
theorem Gg {kk:Int}{ps:List Int}(h:aM kk ps=true):Ca E1 26 [.d (aV kk ps)] (.d (bV kk ((dN kk ps).map dP)).d,none):=by
 have h1:=Wy h;have e:Kt kk ps=bV kk ((dN kk ps).map dP):=by
  unfold Kt bV dN
  by_cases h6:kk=6
  ·simp only[if_pos h6,Q60];rfl
  ·simp only[if_neg h6];rfl
 rw[e]at h1;exact h1
noncomputable def tJ (kk:Int) (ps:List Int) (v:Int):List Sv:=if kk=6 then(List.range ps.length).map fun i=>DD (ps.getD i 0) (ak .i64 (v+i)) else [DD kk v]
theorem AL {k:Int}(hk:single k=true)(v:Int)(hv:gM v):Ca E1 16 [.d (aV k []),dI v] (.d (DD k v).w.d,none):=by
 unfold DD;rcases aQ hk with rfl|rfl|rfl|rfl|rfl
 ·exact ahO v hv
 ·exact ahP v hv
 ·exact aeY v hv
 ·exact ahQ v hv
 ·exact ahR v hv
theorem WM (z:Int):gM (ak .i64 z):=by
 have h:=Go.wf_wrap .i64 z;rw[dh];exact wf_i64 h
theorem Gh {kk:Int}{ps:List Int}(h:aM kk ps=true)(v:Int):iB 9 2 (dN kk ps) (tJ kk ps v):=by
 have hs:=aY h;unfold tJ dN at*
 by_cases h6:kk=6
 ·simp only[if_pos h6]at*;refine⟨aC,fun i k x hk hx => ?_⟩;have hi:i<ps.length:=(aU hk)
  rw[Qc0,Xt0 hi]at hx;simp only[Q30,Qe2]at hx;subst hx;have hg:ps.getD i 0=k:=by rw[Qh1,hk];rfl
  rw[hg];exact PQ (hs k (Qa2 hk)) _
 ·simp only[if_neg h6]at*;refine⟨rfl,fun i k x hk hx => ?_⟩
  match i with
  | 0 =>
   cases hk;cases hx;exact PQ (hs kk aC) v
  | i+1=>cases hk
theorem KG {kk:Int}{ps:List Int}(h:aM kk ps=true)(v:Int)(hv:gM v):Ca E1 16 [.d (aV kk ps),dI v] (.d (bV kk (tJ kk ps v)).d,none):=by
 have hs:=aY h;unfold tJ bV dN at*
 by_cases h6:kk=6
 ·subst h6;simp only[if_true]at*;refine WC v ps _ (rg6 h).1 aC (fun i k z hk hz => ?_);have hi:i<ps.length:=(aU hk)
  rw[Qc0,Qc0,Xt0 hi]at hz;simp only[Q30,Qe2]at hz;subst hz;have hg:ps.getD i 0=k:=by rw[Qh1,hk];rfl
  rw[hg];exact AL (hs k (Qa2 hk)) _ (WM _)
 ·simp only[if_neg h6]at*;obtain⟨rfl,hk⟩:=uQ h h6;exact AL hk v hv
theorem RY {k:Int}{S M:Nat}(hS:S<=1000){x:Sv}(h:x.of k S M):∃ s l1 l2 c b u p,x.w.d=wD s l1 l2 c b u p [] /\
  Ca E1 85 [.d (.a [vB s,.s 1 l1,.s 1 l2])] (.d (.a [vB s,.s 1 l1,.s 1 l2]),none)/\Ca E1 86 [.d (.s 6 p)] (.d (.s 6 p),none):=by
 have t0:=Ca.gV (iV 0 (by have:=jZ;omega));rw[xJ]at t0;obtain⟨_,p0,rfl⟩:=qK (PV.nil S) hS;cases x with
 | q x =>
  have:=h.2;exact⟨_,_,_,_,_,_,_,rfl,Ca.gV (iV x ae),p0⟩
 | c i n=>exact⟨_,_,_,_,_,_,_,rfl,t0,p0⟩
 | s u=>exact⟨_,_,_,_,_,_,_,rfl,t0,p0⟩
 | p l =>
  obtain⟨_,t1,rfl⟩:=qK h.2.1 hS;exact⟨_,_,_,_,_,_,_,V_ l,t0,t1⟩
theorem dY (kk:Int)(ps:List Int)(i:Nat)(j:Int)(hj:j=i)(a:Int)(h:ps[i]?=some a):Ca E1 56 [.d (aV kk ps),dI j] (.d (aV a []),none):=by
 subst hj;have e1:(LK .i64 ps)[i]?=some (vI a):=by simp[LK,h]
 have hl:i<(LK .i64 ps).length:=(aU e1)
 have h0:(0:Int)<=(i:Int):=ae;refine Ca.bQ (n:=60) ?_;rw[aB rfl (aO 56 f56:E1.fn _=_) rfl];have e2:=idx e1;have e0:LK .i64 []=[]:=rfl;unfold aV;rw[e0];simp[f56,e1,e2,hl,h0]
theorem NZ:ak .i64 1=1:=wrap_i64 ae
theorem wr2:ak .i64 2=2:=wrap_i64 ae
theorem wr3:ak .i64 3=3:=wrap_i64 ae
theorem eG {k:Int}(hk:single k=true):aM k []=true/\k≠6:=by
 have h6:k≠6:=by
  rintro rfl;exact absurd hk dw
 exact⟨by unfold aM;rw[if_pos h6,hk];rfl,h6⟩
theorem pO {kk:Int}{ps:List Int}{S M:Nat}{xs:List Sv}(hv:aM kk ps=true)(h:iB S M (dN kk ps) xs) :
  (single kk=true/\ps=[]/\∃ x,xs=[x]/\x.of kk S M) \/
  (kk=6/\∃ a b x y,ps=[a,b]/\xs=[x,y]/\single a=true/\single b=true/\x.of a S M/\y.of b S M) \/
  (kk=6/\∃ a b c x y z,ps=[a,b,c]/\xs=[x,y,z]/\single a=true/\single b=true/\single c=true/\x.of a S M/\y.of b S M/\z.of c S M):=by
 have hs:=aY hv
 by_cases h6:kk=6
 ·subst h6;obtain⟨l3,l2,_⟩:=rg6 hv;unfold dN at*;rw[if_pos rfl]at h hs;have hl:=h.1
  match ps,xs,l3,l2,hl with
  | [a,b],[x,y],_,_,_=>exact .inr (.inl ⟨rfl,a,b,x,y,rfl,rfl,hs a aC,hs b aC,h.2 0 a x rfl rfl,h.2 1 b y rfl rfl⟩)
  | [a,b,c],[x,y,z],_,_,_=>exact .inr (.inr ⟨rfl,a,b,c,x,y,z,rfl,rfl,hs a aC,hs b aC,hs c aC,h.2 0 a x rfl rfl,h.2 1 b y rfl rfl,h.2 2 c z rfl rfl⟩)
 ·obtain⟨rfl,hk⟩:=uQ hv h6;unfold dN at h;rw[if_neg h6]at h;obtain⟨x,rfl,hx⟩:=tF h;exact .inl ⟨hk,rfl,x,rfl,hx⟩
theorem mk_one {k:Int}(hk:single k=true)(x:Sv):bV k [x]=x.w:=if_neg (eG hk).2
theorem aa0 {k:Int}(hk:single k=true){S M:Nat}{x:Sv}(h:x.of k S M):iB S M (dN k []) [x]:=by
 unfold dN;rw[if_neg (eG hk).2];exact⟨rfl,fun i k' x' h1 h2=>by
  match i with
  | 0=>cases h1;cases h2;exact h
  | i+1=>cases h1⟩
theorem oQ {k:Int}(hk:single k=true){S M:Nat}(hS1:1<=S)(hS:S<=1000){x:Sv}(h:x.of k S M):Ca E1 53 [.d (aV k []),.d x.w.d] (.d x.w.d,none):=by
 have hc:=Ca.gV (uL k [] x.w aC (Wv h hS));have hm:=DW (eG hk).1 (aa0 hk h);rw[mk_one hk]at hm;rw[hm]at hc;obtain⟨s,l1,l2,c,b,u,p,e,t1,t2⟩:=RY hS h;rw[e]at hc ⊢;obtain⟨K,hK,a0,a1,a2⟩:=(hc.j (t1.j t2.any)).at 0;clear hc t1 t2 e h hm hK;refine Ca.bQ (n:=K+200) ?_;rw[aB rfl (k53:E1.fn _=_) rfl];unfold wD aV at*;generalize LK .i64 []=l0 at*;simp[aF,f53,a0,a1,a2]
theorem kP (xs:List Sv):(gz (xs.map Sv.w)).d=wD false [] [] 0 false 0 [] (xs.map fun x=>x.w.d):=by
 show D.a [vB false,.s 1 [],.s 1 [],vI 0,vB false,.v (.int .u64 0),.s 6 [],.s 8 (W.ds (xs.map Sv.w))]=_;rw[W.iF,Q60];rfl
theorem DX {ps:List Int}{S M:Nat}{xs:List Sv}(hv:aM 6 ps=true)(hS1:1<=S)(hS:S<=1000)(h:iB S M ps xs) :
  Ca E1 29 [.d (aV 6 ps),.d (wD false [] [] 0 false 0 [] (xs.map fun x=>x.w.d))] (dB true,none)/\Ca E1 85 [.d (.a [vB false,.s 1 [],.s 1 []])] (.d (.a [vB false,.s 1 [],.s 1 []]),none)/\Ca E1 86 [.d (.s 6 [])] (.d (.s 6 []),none):=by
 have hc:=Ca.gV (uL 6 ps (gz (xs.map Sv.w)) (tH hv) (PS hS (rg6 hv).1 h));rw[DJ hv h,kP]at hc;have t0:=Ca.gV (iV 0 (by have:=jZ;omega));rw[xJ]at t0;obtain⟨_,p0,rfl⟩:=qK (PV.nil S) hS;exact⟨hc,t0,p0⟩
theorem xX {kk:Int}{ps:List Int}{S M:Nat}{xs:List Sv}(hv:aM kk ps=true)(hS1:1<=S)(hS:S<=1000)(h:iB S M (dN kk ps) xs):Ca E1 53 [.d (aV kk ps),.d (bV kk xs).d] (.d (bV kk xs).d,none):=by
 rcases pO hv h with ⟨hk,rfl,x,rfl,hx⟩|⟨rfl,a,b,x,y,rfl,rfl,ha,hb,hx,hy⟩|⟨rfl,a,b,c,x,y,z,rfl,rfl,ha,hb,hc,hx,hy,hz⟩
 ·rw[mk_one hk];exact oQ hk hS1 hS hx
 ·obtain⟨f1,f2,f3⟩:=DX hv hS1 hS h;obtain⟨K,hK,a0,a1,a2,b0,b1,p0,p1⟩:=((f1).j ((f2).j ((f3).j ((oQ ha hS1 hS hx).j ((oQ hb hS1 hS hy).j ((dY 6 [a,b] 0 0 rfl a rfl).j ((dY 6 [a,b] 1 1 rfl b rfl).any))))))).at 0;have e0:∀ l,bV 6 l=gz (l.map Sv.w):=fun _=>rfl
  rw[e0,kP];simp only[Qd2,Qc2]at*;obtain⟨xs,x1,x2,xc,xb,xu,xp,xq,ex⟩:=x.w.aP;obtain⟨ys,y1,y2,yc,yb,yu,yp,yq,ey⟩:=y.w.aP;simp only[ex,ey]at*;clear hK f1 f2 f3 e0 h hv hx hy ex ey;refine Ca.bQ (n:=K+500) ?_;rw[aB rfl (k53:E1.fn _=_) rfl];unfold wD aV at*;generalize LK .i64 []=l0 at*;simp only[show LK .i64 [a,b]=[vI a,vI b] from rfl]at*;simp (maxSteps:=500000) [aF,f53,a0,a1,a2,b0,b1,p0,p1,most,NZ,wr2,wr3,ai.view]
 ·obtain⟨f1,f2,f3⟩:=DX hv hS1 hS h;obtain⟨K,hK,a0,a1,a2,b0,b1,b2,p0,p1,p2⟩:=((f1).j ((f2).j ((f3).j ((oQ ha hS1 hS hx).j ((oQ hb hS1 hS hy).j ((oQ hc hS1 hS hz).j ((dY 6 [a,b,c] 0 0 rfl a rfl).j ((dY 6 [a,b,c] 1 1 rfl b rfl).j ((dY 6 [a,b,c] 2 2 rfl c rfl).any))))))))).at 0;have e0:∀ l,bV 6 l=gz (l.map Sv.w):=fun _=>rfl
  rw[e0,kP];simp only[Qd2,Qc2]at*;obtain⟨xs,x1,x2,xc,xb,xu,xp,xq,ex⟩:=x.w.aP;obtain⟨ys,y1,y2,yc,yb,yu,yp,yq,ey⟩:=y.w.aP;obtain⟨zs,z1,z2,zc,zb,zu,zp,zq,ez⟩:=z.w.aP;simp only[ex,ey,ez]at*;clear hK f1 f2 f3 e0 h hv hx hy hz ex ey ez;refine Ca.bQ (n:=K+500) ?_;rw[aB rfl (k53:E1.fn _=_) rfl];unfold wD aV at*;generalize LK .i64 []=l0 at*;simp only[show LK .i64 [a,b,c]=[vI a,vI b,vI c] from rfl]at*;simp (maxSteps:=500000) [aF,f53,a0,a1,a2,b0,b1,b2,p0,p1,p2,most,NZ,wr2,wr3,ai.view]
theorem TW (x:Rat):∃ s n d,(Sv.q x).w.d=wD s n d 0 false 0 [] []/\qD x=.a [vB s,.s 1 n,.s 1 d]:=⟨_,_,_,rfl,rfl⟩
theorem PW {k:Int}(hk:single k=true){S M:Nat}(hS1:1<=S)(hS:S<=1000){x y:Sv}(hx:x.of k S M)(hy:y.of k S M){vw ww:W}(tx:Ca E1 53 [.d (aV k []),.d vw.d] (.d x.w.d,none))(ty:Ca E1 53 [.d (aV k []),.d ww.d] (.d y.w.d,none)) :
  Ca E1 19 [.d (aV k []),.d vw.d,.d ww.d] (.d (dJ k x y).w.d,none):=by
 have tv:=Ca.gV (Ca.bQ (gy 0 k []));rw[(eG hk).1]at tv;obtain⟨vs,RH,RI,vc,vb,vu,vp,vps,ev⟩:=vw.aP;obtain⟨ws,wl1,wl2,wc,wb,wu,wp,wps,ew⟩:=ww.aP;rw[ev]at tx ⊢;rw[ew]at ty ⊢;clear ev ew;rcases aQ hk with rfl|rfl|rfl|rfl|rfl
 ·obtain⟨a,rfl,ha⟩:=xR hx;obtain⟨b,rfl,hb⟩:=xR hy;obtain⟨K,hK,a0,a1,a2,a3⟩:=((tv).j ((tx).j ((ty).j ((Ca.gV (BF a b ae ae)).any)))).at 0;obtain⟨s1,n1,d1,e1,g1⟩:=TW a;obtain⟨s2,n2,d2,e2,g2⟩:=TW b;rw[Zh];obtain⟨s3,n3,d3,e3,g3⟩:=TW (a+b);rw[g1,g2,g3]at a3;rw[e1]at a1;rw[e2]at a2;rw[e3];clear hK tv tx ty;refine Ca.bQ (n:=K+300) ?_;rw[aB rfl (k19:E1.fn _=_) rfl]
  (try unfold wD at*)
  unfold aV at*;generalize LK .i64 []=l0 at*;simp[aF,f19,a0,a1,a2,a3]
 ·obtain⟨i,n,rfl,hn0,hn1,hin⟩:=xS hx;obtain⟨j,m,rfl,hm0,hm1,hjm⟩:=xS hy;obtain⟨K,hK,a0,a1,a2⟩:=((tv).j ((tx).j ((ty).any))).at 0;rw[RS];have hc1:∀ n,(Sv.c i n).w.d=wD false [] [] n i 0 [] []:=fun n=>rfl
  have hc2:∀ n,(Sv.c j n).w.d=wD false [] [] n j 0 [] []:=fun n=>rfl
  unfold ou;rw[hc1]at a1;rw[hc2]at a2
  by_cases h:m<n<;>cases i<;>cases j<;>(try obtain rfl:=hin rfl)<;>(try obtain rfl:=hjm rfl)<;>(try exact absurd h ae)<;>simp only[h,Xk2,Bool.not_false,Qz0,Qp1,X10,Bool.or_true,Bool.true_or,Xg2,decide_true,decide_false,if_true,if_false,Qi0,hc1,hc2] <;>
  (clear hK tv tx ty;refine Ca.bQ (n:=K+300) ?_;rw[aB rfl (k19:E1.fn _=_) rfl];(try rw[hc1]);(try rw[hc2]);unfold wD aV at*;generalize LK .i64 []=l0 at*;simp[f19,a0,a1,a2,h])
 ·obtain⟨a,rfl,_,_,ha⟩:=xU hx;obtain⟨b,rfl,_,_,hb⟩:=xU hy;obtain⟨K,hK,a0,a1,a2,a3⟩:=((tv).j ((tx).j ((ty).j ((Ca.gV (JS a b ae ae)).any)))).at 0;obtain⟨s1,n1,d1,e1,g1⟩:=TW a;obtain⟨s2,n2,d2,e2,g2⟩:=TW b;have ep:=pl3 a b
  by_cases hab:a<b
  ·rw[ep,if_pos hab];rw[decide_eq_true hab,g1,g2]at a3;simp only[e1,e2]at a1 a2 ⊢;clear hK tv tx ty;refine Ca.bQ (n:=K+300) ?_;rw[aB rfl (k19:E1.fn _=_) rfl]
   (try unfold wD at*)
   unfold aV at*;generalize LK .i64 []=l0 at*;simp[aF,f19,a0,a1,a2,a3]
  ·rw[ep,if_neg hab];rw[decide_eq_false hab,g1,g2]at a3;simp only[e1,e2]at a1 a2 ⊢;clear hK tv tx ty;refine Ca.bQ (n:=K+300) ?_;rw[aB rfl (k19:E1.fn _=_) rfl]
   (try unfold wD at*)
   unfold aV at*;generalize LK .i64 []=l0 at*;simp[aF,f19,a0,a1,a2,a3]
 ·obtain⟨u,rfl,hu⟩:=xV hx;obtain⟨v,rfl,hv⟩:=xV hy;obtain⟨K,hK,a0,a1,a2⟩:=((tv).j ((tx).j ((ty).any))).at 0;rw[pl4];have hc1:∀ u,(Sv.s u).w.d=wD false [] [] 0 false u [] []:=fun u=>rfl
  rw[hc1]at a1;rw[hc1]at a2;rw[hc1];clear hK tv tx ty;refine Ca.bQ (n:=K+300) ?_;rw[aB rfl (k19:E1.fn _=_) rfl]
  (try unfold wD at*)
  unfold aV at*;generalize LK .i64 []=l0 at*;simp[aF,f19,a0,a1,a2]
 ·obtain⟨a,rfl,ha,la⟩:=xW hx;obtain⟨b,rfl,hb,lb⟩:=xW hy;obtain⟨K,hK,a0,a1,a2,a3⟩:=((tv).j ((tx).j ((ty).j ((Kg hS1 hS ha hb).any)))).at 0;rw[pl5];simp only[V_]at a1 a2 ⊢;generalize gN a b=c at*;unfold bu at*;generalize (a.map fun p=>qC p.1 p.2)=x1,(b.map fun p=>qC p.1 p.2)=x2,(c.map fun p=>qC p.1 p.2)=x3 at*;clear hK tv tx ty;refine Ca.bQ (n:=K+300) ?_;rw[aB rfl (k19:E1.fn _=_) rfl]
  (try unfold wD at*)
  unfold aV at*;generalize LK .i64 []=l0 at*;simp[aF,f19,a0,a1,a2,a3]
theorem xY {k:Int}(hk:single k=true){S M:Nat}(hS1:1<=S)(hS:S<=1000){x y:Sv}(hx:x.of k S M)(hy:y.of k S M) :
  Ca E1 19 [.d (aV k []),.d x.w.d,.d y.w.d] (.d (dJ k x y).w.d,none):=PW hk hS1 hS hx hy (oQ hk hS1 hS hx) (oQ hk hS1 hS hy)
theorem WN {kk:Int}{ps:List Int}{S M:Nat}{xs ys:List Sv}(hv:aM kk ps=true)(hS1:1<=S)(hS:S<=1000)(hx:iB S M (dN kk ps) xs)(hy:iB S M (dN kk ps) ys){vw ww:W}(tx:Ca E1 53 [.d (aV kk ps),.d vw.d] (.d (bV kk xs).d,none))(ty:Ca E1 53 [.d (aV kk ps),.d ww.d] (.d (bV kk ys).d,none)) :
  Ca E1 19 [.d (aV kk ps),.d vw.d,.d ww.d] (.d (bV kk (bO (dN kk ps) xs ys)).d,none):=by
 have tv:=Ca.gV (Ca.bQ (gy 0 kk ps));rw[hv]at tv;rcases pO hv hx with ⟨hk,rfl,x,rfl,h1⟩|⟨rfl,a,b,x1,x2,rfl,rfl,ha,hb,h1,h2⟩|⟨rfl,a,b,c,x1,x2,x3,rfl,rfl,ha,hb,hc,h1,h2,h3⟩
 ·have h6:=(eG hk).2;rcases pO hv hy with ⟨_,_,y,rfl,g1⟩|⟨h,_⟩|⟨h,_⟩
  ·unfold dN;rw[if_neg h6];rw[mk_one hk]at tx ty;show Ca E1 19 _ (.d (bV kk [dJ kk x y]).d,none);rw[mk_one hk];exact PW hk hS1 hS h1 g1 tx ty
  ·exact absurd h h6
  ·exact absurd h h6
 ·obtain⟨y1,y2,rfl,g1,g2⟩:∃ y1 y2,ys=[y1,y2]/\y1.of a S M/\y2.of b S M:=by
   have hl:=hy.1
   match ys,hl with
   | [y1,y2],_=>exact⟨y1,y2,rfl,hy.2 0 _ _ rfl rfl,hy.2 1 _ _ rfl rfl⟩
  obtain⟨K,hK,a0,a1,a2,b0,b1,p0,p1⟩:=((tv).j ((tx).j ((ty).j ((xY ha hS1 hS h1 g1).j ((xY hb hS1 hS h2 g2).j ((dY 6 [a,b] 0 0 rfl a rfl).j ((dY 6 [a,b] 1 1 rfl b rfl).any))))))).at 0;have e0:∀ l,bV 6 l=gz (l.map Sv.w):=fun _=>rfl
  have e1:bO (dN 6 [a,b]) [x1,x2] [y1,y2]=[dJ a x1 y1,dJ b x2 y2]:=rfl;rw[e1,e0,kP];rw[e0,kP]at a1 a2;obtain⟨vs,RH,RI,vc,vb,vu,vp,vps,ev⟩:=vw.aP;obtain⟨ws,wl1,wl2,wc,wb,wu,wp,wps,ew⟩:=ww.aP;rw[ev]at a1 ⊢;rw[ew]at a2 ⊢;clear tx ty ev ew;simp only[Qd2,Qc2]at*;generalize dJ a x1 y1=z1,dJ b x2 y2=z2 at*;obtain⟨xs1,xm1,xn1,xc1,xb1,xu1,xp1,xq1,WO⟩:=x1.w.aP;obtain⟨xs2,xm2,xn2,xc2,xb2,xu2,xp2,xq2,Gi⟩:=x2.w.aP;obtain⟨ys1,ym1,yn1,yc1,yb1,yu1,yp1,yq1,WQ⟩:=y1.w.aP;obtain⟨ys2,ym2,yn2,yc2,yb2,yu2,yp2,yq2,WR⟩:=y2.w.aP;obtain⟨Wn,zm1,zn1,zc1,zb1,zu1,zp1,zq1,WS⟩:=z1.w.aP;obtain⟨zs2,zm2,zn2,zc2,zb2,zu2,zp2,zq2,KH⟩:=z2.w.aP;simp only[WO,Gi,WQ,WR,WS,KH]at*;clear hK tv e0 e1 hx hy hv h1 g1 h2 g2 WO Gi WQ WR WS KH;refine Ca.bQ (n:=K+500) ?_;rw[aB rfl (k19:E1.fn _=_) rfl];unfold wD aV at*;generalize LK .i64 []=l0 at*;simp only[show LK .i64 [a,b]=[vI a,vI b] from rfl]at*;simp (maxSteps:=500000) [aF,f19,a0,a1,a2,b0,b1,p0,p1,most,NZ,wr2,wr3,ai.view]
 ·obtain⟨y1,y2,y3,rfl,g1,g2,g3⟩:∃ y1 y2 y3,ys=[y1,y2,y3]/\y1.of a S M/\y2.of b S M/\y3.of c S M:=by
   have hl:=hy.1
   match ys,hl with
   | [y1,y2,y3],_=>exact⟨y1,y2,y3,rfl,hy.2 0 _ _ rfl rfl,hy.2 1 _ _ rfl rfl,hy.2 2 _ _ rfl rfl⟩
  obtain⟨K,hK,a0,a1,a2,b0,b1,b2,p0,p1,p2⟩:=((tv).j ((tx).j ((ty).j ((xY ha hS1 hS h1 g1).j ((xY hb hS1 hS h2 g2).j ((xY hc hS1 hS h3 g3).j ((dY 6 [a,b,c] 0 0 rfl a rfl).j ((dY 6 [a,b,c] 1 1 rfl b rfl).j ((dY 6 [a,b,c] 2 2 rfl c rfl).any))))))))).at 0;have e0:∀ l,bV 6 l=gz (l.map Sv.w):=fun _=>rfl
  have e1:bO (dN 6 [a,b,c]) [x1,x2,x3] [y1,y2,y3]=[dJ a x1 y1,dJ b x2 y2,dJ c x3 y3]:=rfl;rw[e1,e0,kP];rw[e0,kP]at a1 a2;obtain⟨vs,RH,RI,vc,vb,vu,vp,vps,ev⟩:=vw.aP;obtain⟨ws,wl1,wl2,wc,wb,wu,wp,wps,ew⟩:=ww.aP;rw[ev]at a1 ⊢;rw[ew]at a2 ⊢;clear tx ty ev ew;simp only[Qd2,Qc2]at*;generalize dJ a x1 y1=z1,dJ b x2 y2=z2,dJ c x3 y3=z3 at*;obtain⟨xs1,xm1,xn1,xc1,xb1,xu1,xp1,xq1,WO⟩:=x1.w.aP;obtain⟨xs2,xm2,xn2,xc2,xb2,xu2,xp2,xq2,Gi⟩:=x2.w.aP;obtain⟨xs3,xm3,xn3,xc3,xb3,xu3,xp3,xq3,WT⟩:=x3.w.aP;obtain⟨ys1,ym1,yn1,yc1,yb1,yu1,yp1,yq1,WQ⟩:=y1.w.aP;obtain⟨ys2,ym2,yn2,yc2,yb2,yu2,yp2,yq2,WR⟩:=y2.w.aP;obtain⟨ys3,ym3,yn3,yc3,yb3,yu3,yp3,yq3,ey3⟩:=y3.w.aP;obtain⟨Wn,zm1,zn1,zc1,zb1,zu1,zp1,zq1,WS⟩:=z1.w.aP;obtain⟨zs2,zm2,zn2,zc2,zb2,zu2,zp2,zq2,KH⟩:=z2.w.aP;obtain⟨zs3,zm3,zn3,zc3,zb3,zu3,zp3,zq3,ez3⟩:=z3.w.aP;simp only[WO,Gi,WT,WQ,WR,ey3,WS,KH,ez3]at*;clear hK tv e0 e1 hx hy hv h1 g1 h2 g2 h3 g3 WO Gi WT WQ WR ey3 WS KH ez3;refine Ca.bQ (n:=K+500) ?_;rw[aB rfl (k19:E1.fn _=_) rfl];unfold wD aV at*;generalize LK .i64 []=l0 at*;simp only[show LK .i64 [a,b,c]=[vI a,vI b,vI c] from rfl]at*;simp (maxSteps:=500000) [aF,f19,a0,a1,a2,b0,b1,b2,p0,p1,p2,most,NZ,wr2,wr3,ai.view]
theorem KI {kk:Int}{ps:List Int}{S M:Nat}{xs ys:List Sv}(hv:aM kk ps=true)(hS1:1<=S)(hS:S<=1000)(hx:iB S M (dN kk ps) xs)(hy:iB S M (dN kk ps) ys) :
  Ca E1 19 [.d (aV kk ps),.d (bV kk xs).d,.d (bV kk ys).d] (.d (bV kk (bO (dN kk ps) xs ys)).d,none):=WN hv hS1 hS hx hy (xX hv hS1 hS hx) (xX hv hS1 hS hy)
theorem uR {k:Int}(hk:single k=true):Ca E1 35 [.d (aV k [])] (.d (dP k).w.d,none):=by
 have tv:=Ca.gV (Ca.bQ (gy 0 k []));rw[(eG hk).1]at tv;have e2:∀ b,W.d (.mk false [] [] 0 b 0 [] [])=wD false [] [] 0 b 0 [] []:=fun _=>rfl
 have eq0:(Sv.q 0).w.d=wD false [] [] 0 false 0 [] []:=by
  have h:=xJ;obtain⟨s,n,d,e1,g1⟩:=TW 0;rw[e1];rw[g1]at h;simp only[D.a.injEq,Xu0,D.v.injEq,Value.bool.injEq,D.s.injEq,true_and,and_true]at h;obtain⟨rfl,rfl,rfl⟩:=h;rfl
 have e:(dP k).w.d=wD false [] [] 0 (k==2) 0 [] []:=by
  rcases aQ hk with rfl|rfl|rfl|rfl|rfl
  ·exact eq0
  ·exact e2 _
  ·exact eq0
  ·exact e2 _
  ·exact e2 _
 rw[e];obtain⟨m0,a0⟩:=(tv).any;clear e e2 eq0 tv;refine Ca.bQ (n:=m0+300) ?_;replace a0:=a0 m0 ae;rw[aB rfl (k35:E1.fn _=_) rfl];unfold wD aV at*;simp only[show LK .i64 []=[] from rfl]at*;rcases aQ hk with rfl|rfl|rfl|rfl|rfl<;>simp[aF,f35,a0]
theorem Ih {kk:Int}{ps:List Int}(hv:aM kk ps=true):Ca E1 35 [.d (aV kk ps)] (.d (bV kk ((dN kk ps).map dP)).d,none):=by
 have h:iB 1 1 (dN kk ps) ((dN kk ps).map dP):=nC ae (aY hv);have tv:=Ca.gV (Ca.bQ (gy 0 kk ps));rw[hv]at tv;have e0:∀ l,bV 6 l=gz (l.map Sv.w):=fun _=>rfl
 rcases pO hv h with ⟨hk,rfl,x,hxs,hx⟩|⟨rfl,a,b,x,y,rfl,hxs,ha,hb,hx,hy⟩|⟨rfl,a,b,c,x,y,z,rfl,hxs,ha,hb,hc,hx,hy,hz⟩
 ·rw[show dN kk []=[kk] from if_neg (eG hk).2,Qd2,Qc2,mk_one hk];exact uR hk
 ·clear h hxs;rw[show dN 6 [a,b]=[a,b] from rfl,e0,kP];simp only[Qd2,Qc2];obtain⟨K,hK,a0,b0,p0,b1,p1⟩:=(tv.j ((uR ha).j ((dY 6 [a,b] 0 0 rfl a rfl).j ((uR hb).j ((dY 6 [a,b] 1 1 rfl b rfl).any))))).at 0;obtain⟨s0,l0,r0,c0,i0,u0,o0,g0,e0x⟩:=(dP a).w.aP;obtain⟨s1,l1,r1,c1,i1,u1,o1,g1,e1x⟩:=(dP b).w.aP;simp only[e0x,e1x]at*;clear hK tv e0 hv hx hy e0x e1x;refine Ca.bQ (n:=K+500) ?_;rw[aB rfl (k35:E1.fn _=_) rfl];unfold wD aV at*;generalize LK .i64 []=l0 at*;simp only[show LK .i64 [a,b]=[vI a,vI b] from rfl]at*;simp (maxSteps:=500000) [aF,f35,a0,b0,p0,b1,p1,most,NZ,wr2,wr3,ai.view]
 ·clear h hxs;rw[show dN 6 [a,b,c]=[a,b,c] from rfl,e0,kP];simp only[Qd2,Qc2];obtain⟨K,hK,a0,b0,p0,b1,p1,b2,p2⟩:=(tv.j ((uR ha).j ((dY 6 [a,b,c] 0 0 rfl a rfl).j ((uR hb).j ((dY 6 [a,b,c] 1 1 rfl b rfl).j ((uR hc).j ((dY 6 [a,b,c] 2 2 rfl c rfl).any))))))).at 0;obtain⟨s0,l0,r0,c0,i0,u0,o0,g0,e0x⟩:=(dP a).w.aP;obtain⟨s1,l1,r1,c1,i1,u1,o1,g1,e1x⟩:=(dP b).w.aP;obtain⟨s2,l2,r2,c2,i2,u2,o2,g2,e2x⟩:=(dP c).w.aP;simp only[e0x,e1x,e2x]at*;clear hK tv e0 hv hx hy hz e0x e1x e2x;refine Ca.bQ (n:=K+500) ?_;rw[aB rfl (k35:E1.fn _=_) rfl];unfold wD aV at*;generalize LK .i64 []=l0 at*;simp only[show LK .i64 [a,b,c]=[vI a,vI b,vI c] from rfl]at*;simp (maxSteps:=500000) [aF,f35,a0,b0,p0,b1,p1,b2,p2,most,NZ,wr2,wr3,ai.view]
end Fi.S
