import Derived.Test.YtgngjdakilfmoaaGreatDoorCO
set_option linter.unusedVariables false
set_option linter.unusedSimpArgs false
noncomputable section
namespace Fi.S
open Go Fi
set_option maxHeartbeats 1000000
theorem Ry (a b:fV):dz a b=dz b a:=by simp[dz,Int.add_comm]
theorem Nq (a b c:fV):dz (dz a b) c=dz a (dz b c):=by simp[dz,Int.add_assoc]
theorem Rz {S:Nat}(hS:1<=S){a b:List aS}(ha:PV S a)(hb:PV S b):fK a b=fK b a :=
 PV.ext (gI hS hS ha hb) (gI hS hS hb ha) (fun e=>by rw[jy,jy];grind)
theorem Nr {S:Nat}(hS:1<=S){a b c:List aS}(ha:PV S a)(hb:PV S b)(hc:PV S c):fK (fK a b) c=fK a (fK b c) :=
 PV.ext (gI ae hS (gI hS hS ha hb) hc) (gI hS ae ha (gI hS hS hb hc)) (fun e=>by simp only[jy];grind)
theorem Wn {S:Nat}(hS:1<=S){a:List aS}(ha:PV S a):fK a []=a :=
 PV.ext (gI hS hS ha (PV.nil S)) ha (fun e=>by rw[jy];simp only[tot];grind)
def cv (a:List aS)(f:fV->Rat)(e:fV):Rat:=match a with
 | []=>0
 | p::r=>p.2*f (e.1-p.1.1,e.2.1-p.1.2.1,e.2.2-p.1.2.2)+cv r f e
def Dz (e a:fV):fV:=(e.1-a.1,e.2.1-a.2.1,e.2.2-a.2.2)
theorem Py (a b e:fV):dz a b=e↔b=Dz e a:=by
 obtain⟨a1,a2,a3⟩:=a;obtain⟨b1,b2,b3⟩:=b;obtain⟨e1,e2,e3⟩:=e;simp only[dz,Dz,Qm0];omega
theorem F_ (p:aS)(e:fV):∀ b:List aS,tot (bW p b) e=p.2*tot b (Dz e p.1)
 | []=>by simp only[bW,Qc2,tot];grind
 | q::r=>by
  have ih:=F_ p e r;have h1:bW p (q::r)=(dz p.1 q.1,p.2*q.2)::bW p r:=rfl;obtain⟨qe,y⟩:=q;rw[h1];simp only[tot,ih]
  by_cases h:dz p.1 qe=e
  ·rw[if_pos h,if_pos ((Py _ _ _).1 h)];grind
  ·rw[if_neg h,if_neg (fun h2=>h ((Py _ _ _).2 h2))];grind
theorem iE (b:List aS)(e:fV):∀ a:List aS,tot (bD a b) e=cv a (tot b) e
 | []=>rfl
 | p::a=>by
  have h1:bD (p::a) b=bW p b++bD a b:=by simp[bD]
  rw[h1,jG,iE b e a,F_];rfl
theorem DC (l:List aS)(e:fV):tot (l.filter fun p=>bI p.1) e=if bI e=true then tot l e else 0:=by
 induction l with
 | nil=>simp[tot]
 | cons p r ih =>
  obtain⟨a,y⟩:=p
  by_cases h:bI a=true
  ·rw[Xh0 (p:=fun p:aS=>bI p.1) h];simp only[tot,ih]
   by_cases h2:a=e
   ·subst h2;simp[h]
   ·simp only[if_neg h2];split<;>grind
  ·rw[Xg2 (p:=fun p:aS=>bI p.1) h,ih];simp only[tot]
   by_cases h2:a=e
   ·subst h2;simp[h]
   ·simp only[if_neg h2];split<;>grind
theorem oz (a b:List aS)(e:fV):tot (dM a b) e=if bI e=true then cv a (tot b) e else 0:=by
 rw[tq,<-mI,DC,iE]
theorem Wo (f g:fV->Rat)(e:fV):∀ a,cv a (fun x=>f x+g x) e=cv a f e+cv a g e
 | []=>by simp only[cv];grind
 | p::a=>by simp only[cv,Wo f g e a];grind
theorem lG (e:fV):∀ a b:List aS,tot (bD a b) e=tot (bD b a) e:=by
 have aj2:∀ a:List aS,bD a []=[]:=fun a=>by
  induction a with
  | nil=>rfl
  | cons p r ih =>
   have h1:bD (p::r) []=bW p []++bD r []:=by simp[bD]
   rw[h1,ih];rfl
 have ahu:∀ (q:aS) (b a:List aS),tot (bD a (q::b)) e=tot (bW q a) e+tot (bD a b) e:=by
  intro q b a
  induction a with
  | nil=>simp only[bD,bW,List.flatMap_nil,Qc2,tot];grind
  | cons p r ih =>
   have h1:bD (p::r) (q::b)=bW p (q::b)++bD r (q::b):=by simp[bD]
   have h2:bD (p::r) b=bW p b++bD r b:=by simp[bD]
   have h3:bW p (q::b)=(dz p.1 q.1,p.2*q.2)::bW p b:=rfl;have h4:bW q (p::r)=(dz q.1 p.1,q.2*p.2)::bW q r:=rfl;rw[h1,h2,jG,jG,h3,h4,ih];simp only[tot,Ry q.1 p.1];grind
 intro a
 induction a with
 | nil=>intro b;rw[aj2];rfl
 | cons p r ih =>
  intro b;have h1:bD (p::r) b=bW p b++bD r b:=by simp[bD]
  rw[h1,jG,ahu,ih]
theorem Ga {S:Nat}(hS:1<=S){a b:List aS}(ha:PV S a)(hb:PV S b):dM a b=dM b a :=
 PV.ext (gU hS ha hb) (gU hS hb ha) (fun e=>by
  rw[tq,tq,<-mI,<-mI,DC,DC,lG])
theorem Kv {S:Nat}(hS:1<=S){a b c:List aS}(ha:PV S a)(hb:PV S b)(hc:PV S c):dM a (fK b c)=fK (dM a b) (dM a c):=by
 have h1:=gI hS hS hb hc;refine PV.ext (gU hS ha h1) (gI ae ae (gU hS ha hb) (gU hS ha hc)) (fun e => ?_);rw[jy,oz,oz,oz];have h2:tot (fK b c)=fun x=>tot b x+tot c x:=by funext x;exact jy b c x
 rw[h2,Wo];split<;>grind
theorem Ak (p:aS)(c:List aS):∀ b:List aS,bD (bW p b) c=bW p (bD b c)
 | []=>rfl
 | q::b=>by
  have h1:bW p (q::b)=(dz p.1 q.1,p.2*q.2)::bW p b:=rfl;have h2:∀ (x:aS) (r:List aS),bD (x::r) c=bW x c++bD r c:=fun x r=>by simp[bD]
  rw[h1,h2,h2,Ak p c b];have h3:bW p (bW q c++bD b c)=bW p (bW q c)++bW p (bD b c):=by simp[bW]
  rw[h3]
  congr 1
  unfold bW;rw[Q2];refine Xk2 fun r _ => ?_
  simp only[Function.comp,Nq,Rat.mul_assoc]
theorem Al (b c:List aS):∀ a:List aS,bD (bD a b) c=bD a (bD b c)
 | []=>rfl
 | p::a=>by
  have h1:bD (p::a) b=bW p b++bD a b:=by simp[bD]
  have h2:bD (p::a) (bD b c)=bW p (bD b c)++bD a (bD b c):=by simp[bD]
  have h3:bD (bW p b++bD a b) c=bD (bW p b) c++bD (bD a b) c:=by simp[bD,Xr2]
  rw[h1,h2,h3,Ak,Al b c a]
theorem DD {f g:fV->Rat}{e:fV}:∀ {a:List aS},(∀ p ∈ a,f (Dz e p.1)=g (Dz e p.1))->cv a f e=cv a g e
 | [],_=>rfl
 | p::a,h=>by
  have h1:=h p (Qi2 ..);have h2:=DD (a:=a) (fun q hq=>h q (Qg2 _ hq));show p.2*f (Dz e p.1)+cv a f e=p.2*g (Dz e p.1)+cv a g e;rw[h1,h2]
theorem Gb {a b:List aS}(ha:Fits a)(hb:Fits b){c e:fV}(hc:bI c=true)(he:bI e=true):tot (dM a b) (Dz e c)=tot (bD a b) (Dz e c):=by
 rw[oz,iE];split
 ·rfl
 ·rename_i hf;rw[<-iE];symm;refine jT fun x hx hxe => ?_
  obtain⟨p,hp,hx⟩:=Xk0.1 hx;obtain⟨q,hq,rfl⟩:=Qg1.1 hx;have h1:=dh (ha p hp);have h2:=dh (hb q hq);have h3:=dh hc;have h4:=dh he;apply hf;rw[J7,<-hxe];have h5:dz p.1 q.1=Dz e c:=hxe;simp only[dz,Dz,Qm0]at h5 ⊢;omega
theorem DI {S:Nat}(hS:1<=S){a b c:List aS}(ha:PV S a)(hb:PV S b)(hc:PV S c):dM (dM a b) c=dM a (dM b c):=by
 have h1:=gU hS ha hb;have h2:=gU hS hb hc;refine PV.ext (gU ae h1 hc) (gU hS ha h2) (fun e => ?_);rw[oz,oz];split
 ·rename_i he;rw[<-iE,lG,iE,DD (g:=tot (bD a b)) (fun p hp=>Gb ha.fits hb.fits (hc.fits p hp) he),<-iE,lG,Al,iE];exact DD fun p hp=>(Gb hb.fits hc.fits (ha.fits p hp) he).symm
 ·rfl
theorem Wp {S:Nat}(hS:1<=S){a:List aS}(ha:PV S a)(h1:PV S (bM 1)):dM a (bM 1)=a:=by
 refine PV.ext (gU hS ha h1) ha (fun e => ?_);have hc:bM 1=[((0,0,0),1)]:=if_neg bS;rw[oz,<-iE,lG,hc,iE];have h2:cv [((0,0,0),(1:Rat))] (tot a) e=tot a e:=by
  simp only[cv];have h3:((e.1-0,e.2.1-0,e.2.2-0):fV)=e:=by
   obtain⟨x,y,z⟩:=e;simp
  rw[h3];grind
 rw[h2];split
 ·rfl
 ·rename_i hf;exact(jT fun p hp hpe=>hf (by rw[<-hpe];exact ha.fits p hp)).symm
theorem DJ (x:BitVec 64):IntKind.wrap .u64 (x.toNat:Int)=(x.toNat:Int):=by
 have h:=x.isLt;rw[<-cZ];exact wrap_u64 ae
theorem zh (u v:Int):BU .u64 u v=((BitVec.ofInt 64 u ||| BitVec.ofInt 64 v).toNat:Int):=by
 rw[yP];exact DJ _
theorem uI (u v:Int):nY .u64 u v=((BitVec.ofInt 64 u &&& BitVec.ofInt 64 v).toNat:Int):=by
 rw[Bo];exact DJ _
theorem DK (x:BitVec 64):BitVec.ofInt 64 (x.toNat:Int)=x:=aC
theorem Wq {u:Int}(h:A9 u):((BitVec.ofInt 64 u).toNat:Int)=u:=by
 unfold A9 at h;rw[BitVec.toNat_ofInt];omega
theorem or_comm (u v:Int):BU .u64 u v=BU .u64 v u:=by rw[zh,zh,BitVec.or_comm]
theorem and_comm (u v:Int):nY .u64 u v=nY .u64 v u:=by rw[uI,uI,BitVec.and_comm]
theorem or_assoc (u v w:Int):BU .u64 (BU .u64 u v) w=BU .u64 u (BU .u64 v w):=by
 simp only[zh,DK,BitVec.or_assoc]
theorem and_assoc (u v w:Int):nY .u64 (nY .u64 u v) w=nY .u64 u (nY .u64 v w):=by
 simp only[uI,DK,BitVec.and_assoc]
theorem aeA (u v w:Int):nY .u64 u (BU .u64 v w)=BU .u64 (nY .u64 u v) (nY .u64 u w):=by
 simp only[zh,uI,DK]
 congr 2
 ext i
 simp[Bool.and_or_distrib_left]
theorem or_zero {u:Int}(h:A9 u):BU .u64 u 0=u:=by
 rw[zh];have h0:BitVec.ofInt 64 0=0#64:=rfl;rw[h0,BitVec.or_zero,Wq h]
theorem and_ones {u:Int}(h:A9 u):nY .u64 u 18446744073709551615=u:=by
 rw[uI];have h0:BitVec.ofInt 64 18446744073709551615=BitVec.allOnes 64:=bS;rw[h0,BitVec.and_allOnes,Wq h]
section
theorem zi {S M:Nat}{x:Sv}(h:x.of 1 S M):∃ q,x=.q q/\qz q<=S:=by
 cases x with
 | q x=>exact⟨x,rfl,h.2⟩
 | c i n=>exact absurd h.1 bS
 | s u=>exact absurd h.1 bS
 | p a=>exact absurd h.1 bS
theorem tC {S M:Nat}{x:Sv}(h:x.of 2 S M):∃ i n,x=.c i n/\0<=n/\n<=1099511627776/\(i=true->n=0):=by
 cases x with
 | c i n=>exact⟨i,n,rfl,h.2⟩
 | q x=>rcases h.1 with h | h;exact absurd h bS;exact absurd h.1 bS
 | s u=>exact absurd h.1 bS
 | p a=>exact absurd h.1 bS
theorem tF {S M:Nat}{x:Sv}(h:x.of 3 S M):∃ q,x=.q q/\0<=q/\q<=1/\qz q<=S:=by
 cases x with
 | q x =>
  rcases h.1 with h1|h1
  ·exact absurd h1 bS
  ·exact⟨x,rfl,h1.2.1,h1.2.2,h.2⟩
 | c i n=>exact absurd h.1 bS
 | s u=>exact absurd h.1 bS
 | p a=>exact absurd h.1 bS
theorem yJ {S M:Nat}{x:Sv}(h:x.of 4 S M):∃ u,x=.s u/\A9 u:=by
 cases x with
 | s u=>exact⟨u,rfl,h.2⟩
 | q x=>rcases h.1 with h | h;exact absurd h bS;exact absurd h.1 bS
 | c i n=>exact absurd h.1 bS
 | p a=>exact absurd h.1 bS
theorem zk {S M:Nat}{x:Sv}(h:x.of 5 S M):∃ a,x=.p a/\PV S a/\a.length<=M:=by
 cases x with
 | p a=>exact⟨a,rfl,h.2⟩
 | q x=>rcases h.1 with h | h;exact absurd h bS;exact absurd h.1 bS
 | c i n=>exact absurd h.1 bS
 | s u=>exact absurd h.1 bS
def nH (k:Int):Sv:=if k=2 then .c false 0 else if k=4 then .s 18446744073709551615 else if k=5 then .p (bM 1) else .q 1
theorem aaP {k:Int}(hk:single k=true)(S M:Nat)(hS:1<=S)(hM:1<=M):(nH k).of k S M:=by
 rcases aN hk with rfl|rfl|rfl|rfl|rfl
 ·exact⟨.inl rfl,Qc1 yV hS⟩
 ·exact⟨rfl,bS,bS,fun _=>rfl⟩
 ·exact⟨.inr ⟨rfl,bS,bS⟩,Qc1 yV hS⟩
 ·exact⟨rfl,bS,bS⟩
 ·exact⟨rfl,jK (Qc1 yV hS),Qc1 (zf 1) hM⟩
theorem pl1 (x y:Rat):dn 1 (.q x) (.q y)=.q (x+y):=rfl
theorem Y9 (x y:Rat):dn 3 (.q x) (.q y)=.q (if x<y then y else x):=by
 show(if x<y then Sv.q y else .q x)=_;split<;>rfl
theorem RA (i j:Bool)(n m:Int):dn 2 (.c i n) (.c j m)=if jd j m i n then .c j m else .c i n:=rfl
theorem pl4 (u v:Int):dn 4 (.s u) (.s v)=.s (BU .u64 u v):=rfl
theorem pl5 (a b:List aS):dn 5 (.p a) (.p b)=.p (fK a b):=rfl
theorem Y_ (x y:Rat):cK (.q x) (.q y)=.q (x*y):=rfl
theorem Za (i j:Bool)(n m:Int):cK (.c i n) (.c j m)=if i||(j||decide (1099511627776<n+m)) then .c true 0 else .c false (n+m):=rfl
theorem ti4 (u v:Int):cK (.s u) (.s v)=.s (nY .u64 u v):=rfl
theorem ti5 (a b:List aS):cK (.p a) (.p b)=.p (dM a b):=rfl
section laws
variable {k:Int} {S M:Nat} {x y z:Sv}
theorem aeB {a b:Rat}(ha:0<=a/\a<=1)(hb:0<=b/\b<=1):0<=a*b/\a*b<=1:=by
 have h1:0<=a*b:=Rat.mul_nonneg ha.1 hb.1;have h2:0<=a*(1-b):=Rat.mul_nonneg ha.1 (by grind);constructor
 ·exact h1
 ·grind
theorem Ws (hk:single k=true)(hS:1<=S)(hM:1<=M)(hx:x.of k S M)(hy:y.of k S M):(cK x y).of k (M*(S+S+1)+1) (M*M):=by
 have hb:S+S<=M*(S+S+1)+1:=by
  have:=Qf0 (S+S+1) hM;omega
 rcases aN hk with rfl|rfl|rfl|rfl|rfl
 ·obtain⟨a,rfl,ha⟩:=zi hx;obtain⟨b,rfl,hb'⟩:=zi hy;have:=vU a b;exact⟨.inl rfl,show qz (a*b)<=_ by omega⟩
 ·obtain⟨i,n,rfl,h1,h2,h3⟩:=tC hx;obtain⟨j,m,rfl,g1,g2,g3⟩:=tC hy;rw[Za];split
  ·exact⟨rfl,bS,bS,fun _=>rfl⟩
  ·rename_i h;simp at h;exact⟨rfl,ae,ae,fun h=>by cases h⟩
 ·obtain⟨a,rfl,a0,a1,ha⟩:=tF hx;obtain⟨b,rfl,b0,b1,hb'⟩:=tF hy;have:=vU a b;exact⟨.inr ⟨rfl,aeB ⟨a0,a1⟩ ⟨b0,b1⟩⟩,show qz (a*b)<=_ by omega⟩
 ·obtain⟨u,rfl,hu⟩:=yJ hx;obtain⟨v,rfl,hv⟩:=yJ hy;refine⟨rfl,?_⟩;show A9 (nY .u64 u v);rw[uI];have:=(BitVec.ofInt 64 u &&& BitVec.ofInt 64 v).isLt;unfold A9;omega
 ·obtain⟨a,rfl,ha,la⟩:=zk hx;obtain⟨b,rfl,hb',lb⟩:=zk hy;refine⟨rfl,(gU hS ha hb').mono ?_,Qc1 (Ag a b) (Q22 la lb)⟩;exact X32 (Qf0 _ la) 1
theorem RB (hk:single k=true)(hS:1<=S)(hx:x.of k S M)(hy:y.of k S M):dn k x y=dn k y x:=by
 rcases aN hk with rfl|rfl|rfl|rfl|rfl
 ·obtain⟨a,rfl,_⟩:=zi hx;obtain⟨b,rfl,_⟩:=zi hy;rw[pl1,pl1,Rat.add_comm]
 ·obtain⟨i,n,rfl,h1,h2,h3⟩:=tC hx;obtain⟨j,m,rfl,g1,g2,g3⟩:=tC hy;rw[RA,RA];unfold jd;cases i<;>cases j<;>simp at*<;>(repeat' split)<;>simp_all<;>omega
 ·obtain⟨a,rfl,_⟩:=tF hx;obtain⟨b,rfl,_⟩:=tF hy;rw[Y9,Y9]
  congr 1
  split<;>split<;>grind
 ·obtain⟨u,rfl,_⟩:=yJ hx;obtain⟨v,rfl,_⟩:=yJ hy;rw[pl4,pl4,or_comm]
 ·obtain⟨a,rfl,ha,_⟩:=zk hx;obtain⟨b,rfl,hb,_⟩:=zk hy;rw[pl5,pl5,Rz hS ha hb]
theorem Ns (hk:single k=true)(hS:1<=S)(hx:x.of k S M)(hy:y.of k S M):cK x y=cK y x:=by
 rcases aN hk with rfl|rfl|rfl|rfl|rfl
 ·obtain⟨a,rfl,_⟩:=zi hx;obtain⟨b,rfl,_⟩:=zi hy;rw[Y_,Y_,Rat.mul_comm]
 ·obtain⟨i,n,rfl,h1,h2,h3⟩:=tC hx;obtain⟨j,m,rfl,g1,g2,g3⟩:=tC hy;rw[Za,Za,Int.add_comm m n];cases i<;>cases j<;>rfl
 ·obtain⟨a,rfl,_⟩:=tF hx;obtain⟨b,rfl,_⟩:=tF hy;rw[Y_,Y_,Rat.mul_comm]
 ·obtain⟨u,rfl,_⟩:=yJ hx;obtain⟨v,rfl,_⟩:=yJ hy;rw[ti4,ti4,and_comm]
 ·obtain⟨a,rfl,ha,_⟩:=zk hx;obtain⟨b,rfl,hb,_⟩:=zk hy;rw[ti5,ti5,Ga hS ha hb]
theorem Nt (hk:single k=true)(hS:1<=S)(hx:x.of k S M)(hy:y.of k S M)(hz:z.of k S M):dn k (dn k x y) z=dn k x (dn k y z):=by
 rcases aN hk with rfl|rfl|rfl|rfl|rfl
 ·obtain⟨a,rfl,_⟩:=zi hx;obtain⟨b,rfl,_⟩:=zi hy;obtain⟨c,rfl,_⟩:=zi hz;simp only[pl1,Rat.add_assoc]
 ·obtain⟨i,n,rfl,h1,h2,h3⟩:=tC hx;obtain⟨j,m,rfl,g1,g2,g3⟩:=tC hy;obtain⟨o,l,rfl,f1,f2,f3⟩:=tC hz;rw[RA,RA]
  by_cases a:jd j m i n=true<;>by_cases b:jd o l j m=true<;>simp only[a,b,if_true,if_false,Qh1,RA]<;>unfold jd at*<;>cases i<;>cases j<;>cases o<;>simp at*<;>(repeat' split)<;>simp_all<;>omega
 ·obtain⟨a,rfl,_⟩:=tF hx;obtain⟨b,rfl,_⟩:=tF hy;obtain⟨c,rfl,_⟩:=tF hz;simp only[Y9]
  congr 1
  repeat' split
  all_goals grind
 ·obtain⟨u,rfl,_⟩:=yJ hx;obtain⟨v,rfl,_⟩:=yJ hy;obtain⟨w,rfl,_⟩:=yJ hz;simp only[pl4,or_assoc]
 ·obtain⟨a,rfl,ha,_⟩:=zk hx;obtain⟨b,rfl,hb,_⟩:=zk hy;obtain⟨c,rfl,hc,_⟩:=zk hz;simp only[pl5,Nr hS ha hb hc]
theorem Kw (hk:single k=true)(hS:1<=S)(hx:x.of k S M)(hy:y.of k S M)(hz:z.of k S M):cK (cK x y) z=cK x (cK y z):=by
 rcases aN hk with rfl|rfl|rfl|rfl|rfl
 ·obtain⟨a,rfl,_⟩:=zi hx;obtain⟨b,rfl,_⟩:=zi hy;obtain⟨c,rfl,_⟩:=zi hz;simp only[Y_,Rat.mul_assoc]
 ·obtain⟨i,n,rfl,h1,h2,h3⟩:=tC hx;obtain⟨j,m,rfl,g1,g2,g3⟩:=tC hy;obtain⟨o,l,rfl,f1,f2,f3⟩:=tC hz;rw[Za,Za]
  by_cases a:1099511627776<n+m<;>by_cases b:1099511627776<m+l<;>cases i<;>cases j<;>cases o<;>(try simp[a,b,Za])<;>(try (repeat' split))<;>first|done|rfl|omega|(congr 1;omega)|(simp_all;omega)
 ·obtain⟨a,rfl,_⟩:=tF hx;obtain⟨b,rfl,_⟩:=tF hy;obtain⟨c,rfl,_⟩:=tF hz;simp only[Y_,Rat.mul_assoc]
 ·obtain⟨u,rfl,_⟩:=yJ hx;obtain⟨v,rfl,_⟩:=yJ hy;obtain⟨w,rfl,_⟩:=yJ hz;simp only[ti4,and_assoc]
 ·obtain⟨a,rfl,ha,_⟩:=zk hx;obtain⟨b,rfl,hb,_⟩:=zk hy;obtain⟨c,rfl,hc,_⟩:=zk hz;simp only[ti5,DI hS ha hb hc]
theorem Nu (hk:single k=true)(hS:1<=S)(hx:x.of k S M)(hy:y.of k S M)(hz:z.of k S M):cK x (dn k y z)=dn k (cK x y) (cK x z):=by
 rcases aN hk with rfl|rfl|rfl|rfl|rfl
 ·obtain⟨a,rfl,_⟩:=zi hx;obtain⟨b,rfl,_⟩:=zi hy;obtain⟨c,rfl,_⟩:=zi hz;simp only[Y_,pl1,Rat.mul_add]
 ·obtain⟨i,n,rfl,h1,h2,h3⟩:=tC hx;obtain⟨j,m,rfl,g1,g2,g3⟩:=tC hy;obtain⟨o,l,rfl,f1,f2,f3⟩:=tC hz;rw[Za,Za,RA]
  by_cases a:1099511627776<n+m<;>by_cases b:1099511627776<n+l<;>by_cases c:l<m<;>cases i<;>cases j<;>cases o<;>(try simp[a,b,c,Za,RA,jd])<;>(try (repeat' split))<;>first|done|rfl|omega|(congr 1;omega)|(simp_all;omega)
 ·obtain⟨a,rfl,a0,a1,_⟩:=tF hx;obtain⟨b,rfl,_⟩:=tF hy;obtain⟨c,rfl,_⟩:=tF hz;simp only[Y_,Y9]
  congr 1
  split
  ·rename_i h;have h1:0<=a*(c-b):=Rat.mul_nonneg a0 (by grind);split
   ·rfl
   ·grind
  ·rename_i h;have h1:0<=a*(b-c):=Rat.mul_nonneg a0 (by grind);split
   ·grind
   ·rfl
 ·obtain⟨u,rfl,_⟩:=yJ hx;obtain⟨v,rfl,_⟩:=yJ hy;obtain⟨w,rfl,_⟩:=yJ hz;simp only[ti4,pl4,aeA]
 ·obtain⟨a,rfl,ha,_⟩:=zk hx;obtain⟨b,rfl,hb,_⟩:=zk hy;obtain⟨c,rfl,hc,_⟩:=zk hz;simp only[ti5,pl5,Kv hS ha hb hc]
theorem RD (hk:single k=true)(hS:1<=S)(hx:x.of k S M):dn k x (dO k)=x:=by
 rcases aN hk with rfl|rfl|rfl|rfl|rfl
 ·obtain⟨a,rfl,_⟩:=zi hx;show Sv.q (a+0)=_;rw[Rat.add_zero]
 ·obtain⟨i,n,rfl,h1,h2,h3⟩:=tC hx;show(if jd true 0 i n then Sv.c true 0 else .c i n)=_;rfl
 ·obtain⟨a,rfl,a0,_⟩:=tF hx;show dn 3 (.q a) (.q 0)=_;rw[Y9,if_neg (by grind)]
 ·obtain⟨u,rfl,hu⟩:=yJ hx;show Sv.s (BU .u64 u 0)=_;rw[or_zero hu]
 ·obtain⟨a,rfl,ha,_⟩:=zk hx;show Sv.p (fK a [])=_;rw[Wn hS ha]
theorem RF (hk:single k=true)(hS:1<=S)(hx:x.of k S M):cK x (nH k)=x:=by
 rcases aN hk with rfl|rfl|rfl|rfl|rfl
 ·obtain⟨a,rfl,_⟩:=zi hx;show Sv.q (a*1)=_;rw[Rat.mul_one]
 ·obtain⟨i,n,rfl,h1,h2,h3⟩:=tC hx;show(if i||(false||decide (1099511627776<n+0)) then Sv.c true 0 else .c false (n+0))=_;cases i
  ·have:¬ 1099511627776<n+0:=ae;simp[this];omega
  ·rw[h3 rfl];rfl
 ·obtain⟨a,rfl,_⟩:=tF hx;show Sv.q (a*1)=_;rw[Rat.mul_one]
 ·obtain⟨u,rfl,hu⟩:=yJ hx;show Sv.s (nY .u64 u 18446744073709551615)=_;rw[and_ones hu]
 ·obtain⟨a,rfl,ha,_⟩:=zk hx;show Sv.p (dM a (bM 1))=_;rw[Wp hS ha (jK (Qc1 yV hS))]
end laws
end
set_option maxHeartbeats 8000000
section
def dG (kk:Int)(ps:List Int):List Int:=if kk=6 then ps else [kk]
def bN (kk:Int)(xs:List Sv):W:=if kk=6 then fG (xs.map Sv.w) else(xs.headD (.q 0)).w
noncomputable def bF (xs ys:List Sv):List Sv:=(xs.zip ys).map fun p=>cK p.1 p.2
theorem bV {kk:Int}{ps:List Int}(h:aM kk ps=true):∀ k ∈ dG kk ps,single k=true:=by
 unfold dG;split
 ·rename_i h6;subst h6;exact(Y8 h).2.2
 ·rename_i h6;unfold aM at h;rw[if_pos h6]at h;simp only[Qd0]at h;intro k hk;rw[Qx0]at hk;subst hk;exact h.1
theorem eQ {xs ys:List Sv}{i:Nat}{z:Sv}(h:(bF xs ys)[i]?=some z):∃ x y,xs[i]?=some x/\ys[i]?=some y/\z=cK x y:=by
 unfold bF at h;rw[Qb1,Qf1]at h;obtain⟨⟨x,y⟩,h1,rfl⟩:=h;rw[Xf1]at h1;exact⟨x,y,h1.1,h1.2,rfl⟩
theorem DN {S M:Nat}(hS:1<=S)(hM:1<=M){ks:List Int}(hs:∀ k ∈ ks,single k=true){xs ys:List Sv}(hx:ik S M ks xs)(hy:ik S M ks ys):ik (M*(S+S+1)+1) (M*M) ks (bF xs ys):=by
 refine⟨by simp[bF,hx.1,hy.1],fun i k z hk hz => ?_⟩;obtain⟨x,y,h2,h3,rfl⟩:=eQ hz;exact Ws (hs k (Qa2 hk)) hS hM (hx.2 i k x hk h2) (hy.2 i k y hk h3)
theorem ik.mono {S T M M':Nat}{ks:List Int}{xs:List Sv}(h:ik S M ks xs)(hST:S<=T)(hM:M<=M'):ik T M' ks xs:=⟨h.1,fun i k x hk hx=>(h.2 i k x hk hx).mono hST hM⟩
theorem mK {ks:List Int}{l m:List Sv}(hl:l.length=ks.length)(hm:m.length=ks.length)(h:∀ (i:Nat) (k:Int) (x y:Sv),ks[i]?=some k->l[i]?=some x->m[i]?=some y->x=y):l=m:=by
 refine List.ext_getElem ae (fun i h1 h2 => ?_);exact h i (ks[i]'(by omega)) _ _ (Qa1 ae) (Qa1 h1) (Qa1 h2)
theorem bZ {α:Type}{l:List α}{i:Nat}{x y:α}(h1:l[i]?=some x)(h2:l[i]?=some y):x=y:=by
 rw[h1]at h2;exact Qy0 h2
section laws
variable {S M:Nat} {ks:List Int} {xs ys zs:List Sv}
theorem iZ (hx:xs.length=ks.length)(hy:ys.length=ks.length):(bT ks xs ys).length=ks.length:=by simp[bT,hx,hy]
theorem fA (hx:xs.length=ks.length)(hy:ys.length=ks.length):(bF xs ys).length=ks.length:=by simp[bF,hx,hy]
theorem Nv (hS:1<=S)(hs:∀ k ∈ ks,single k=true)(hx:ik S M ks xs)(hy:ik S M ks ys):bT ks xs ys=bT ks ys xs:=by
 refine mK (iZ hx.1 hy.1) (iZ hy.1 hx.1) (fun i k u v hk hu hv => ?_);obtain⟨k1,x,y,a1,a2,a3,rfl⟩:=iq hu;obtain⟨k2,y',x',b1,b2,b3,rfl⟩:=iq hv;obtain rfl:=bZ hk a1;obtain rfl:=bZ hk b1;obtain rfl:=bZ a2 b3;obtain rfl:=bZ a3 b2;exact RB (hs k (Qa2 hk)) hS (hx.2 i k _ hk a2) (hy.2 i k _ hk a3)
theorem Ky (hS:1<=S)(hs:∀ k ∈ ks,single k=true)(hx:ik S M ks xs)(hy:ik S M ks ys):bF xs ys=bF ys xs:=by
 refine mK (fA hx.1 hy.1) (fA hy.1 hx.1) (fun i k u v hk hu hv => ?_);obtain⟨x,y,a2,a3,rfl⟩:=eQ hu;obtain⟨y',x',b2,b3,rfl⟩:=eQ hv;obtain rfl:=bZ a2 b3;obtain rfl:=bZ a3 b2;exact Ns (hs k (Qa2 hk)) hS (hx.2 i k _ hk a2) (hy.2 i k _ hk a3)
theorem Kz (hS:1<=S)(hs:∀ k ∈ ks,single k=true)(hx:ik S M ks xs)(hy:ik S M ks ys)(hz:ik S M ks zs):bT ks (bT ks xs ys) zs=bT ks xs (bT ks ys zs):=by
 refine mK (iZ (iZ hx.1 hy.1) hz.1) (iZ hx.1 (iZ hy.1 hz.1)) (fun i k u v hk hu hv => ?_);obtain⟨k1,t,z,a1,a2,a3,rfl⟩:=iq hu;obtain⟨k2,x,y,c1,c2,c3,rfl⟩:=iq a2;obtain⟨k3,x',t',b1,b2,b3,rfl⟩:=iq hv;obtain⟨k4,y',z',d1,d2,d3,rfl⟩:=iq b3;obtain rfl:=bZ hk a1;obtain rfl:=bZ hk b1;obtain rfl:=bZ hk c1;obtain rfl:=bZ hk d1;obtain rfl:=bZ c2 b2;obtain rfl:=bZ c3 d2;obtain rfl:=bZ a3 d3;exact Nt (hs k (Qa2 hk)) hS (hx.2 i k _ hk c2) (hy.2 i k _ hk c3) (hz.2 i k _ hk a3)
theorem H5 (hS:1<=S)(hs:∀ k ∈ ks,single k=true)(hx:ik S M ks xs)(hy:ik S M ks ys)(hz:ik S M ks zs):bF (bF xs ys) zs=bF xs (bF ys zs):=by
 refine mK (fA (fA hx.1 hy.1) hz.1) (fA hx.1 (fA hy.1 hz.1)) (fun i k u v hk hu hv => ?_);obtain⟨t,z,a2,a3,rfl⟩:=eQ hu;obtain⟨x,y,c2,c3,rfl⟩:=eQ a2;obtain⟨x',t',b2,b3,rfl⟩:=eQ hv;obtain⟨y',z',d2,d3,rfl⟩:=eQ b3;obtain rfl:=bZ c2 b2;obtain rfl:=bZ c3 d2;obtain rfl:=bZ a3 d3;exact Kw (hs k (Qa2 hk)) hS (hx.2 i k _ hk c2) (hy.2 i k _ hk c3) (hz.2 i k _ hk a3)
theorem KA (hS:1<=S)(hs:∀ k ∈ ks,single k=true)(hx:ik S M ks xs)(hy:ik S M ks ys)(hz:ik S M ks zs):bF xs (bT ks ys zs)=bT ks (bF xs ys) (bF xs zs):=by
 refine mK (fA hx.1 (iZ hy.1 hz.1)) (iZ (fA hx.1 hy.1) (fA hx.1 hz.1)) (fun i k u v hk hu hv => ?_);obtain⟨x,t,a2,a3,rfl⟩:=eQ hu;obtain⟨k2,y,z,c1,c2,c3,rfl⟩:=iq a3;obtain⟨k3,s,t',b1,b2,b3,rfl⟩:=iq hv;obtain⟨x',y',d2,d3,rfl⟩:=eQ b2;obtain⟨x'',z',e2,e3,rfl⟩:=eQ b3;obtain rfl:=bZ hk b1;obtain rfl:=bZ hk c1;obtain rfl:=bZ a2 d2;obtain rfl:=bZ a2 e2;obtain rfl:=bZ c2 d3;obtain rfl:=bZ c3 e3;exact Nu (hs k (Qa2 hk)) hS (hx.2 i k _ hk a2) (hy.2 i k _ hk c2) (hz.2 i k _ hk c3)
theorem oZ {f:Int->Sv}{i:Nat}{k:Int}{z:Sv}(hk:ks[i]?=some k)(h:(ks.map f)[i]?=some z):z=f k:=by
 rw[Qb1,hk]at h;exact(Qy0 h).symm
theorem v_ (hS:1<=S)(hs:∀ k ∈ ks,single k=true)(hx:ik S M ks xs):bT ks xs (ks.map dO)=xs:=by
 refine mK (iZ hx.1 aC) hx.1 (fun i k u v hk hu hv => ?_);obtain⟨k1,x,y,a1,a2,a3,rfl⟩:=iq hu;obtain rfl:=bZ hk a1;obtain rfl:=bZ a2 hv;rw[oZ hk a3];exact RD (hs k (Qa2 hk)) hS (hx.2 i k _ hk a2)
theorem Nw (hS:1<=S)(hs:∀ k ∈ ks,single k=true)(hx:ik S M ks xs):bF xs (ks.map nH)=xs:=by
 refine mK (fA hx.1 aC) hx.1 (fun i k u v hk hu hv => ?_);obtain⟨x,y,a2,a3,rfl⟩:=eQ hu;obtain rfl:=bZ a2 hv;rw[oZ hk a3];exact RF (hs k (Qa2 hk)) hS (hx.2 i k _ hk a2)
theorem KC (hs:∀ k ∈ ks,single k=true)(hx:ik S M ks xs):bF xs (ks.map dO)=ks.map dO:=by
 refine mK (fA hx.1 aC) aC (fun i k u v hk hu hv => ?_);obtain⟨x,y,a2,a3,rfl⟩:=eQ hu;rw[oZ hk a3,oZ hk hv];exact Nk (hs k (Qa2 hk)) (hx.2 i k _ hk a2)
theorem kP (hS:1<=S)(hs:∀ k ∈ ks,single k=true):ik S M ks (ks.map dO):=⟨aC,fun i k x hk hx=>by rw[oZ hk hx];exact V8 (hs k (Qa2 hk)) S M hS⟩
theorem KD (hS:1<=S)(hM:1<=M)(hs:∀ k ∈ ks,single k=true):ik S M ks (ks.map nH):=⟨aC,fun i k x hk hx=>by rw[oZ hk hx];exact aaP (hs k (Qa2 hk)) S M hS hM⟩
end laws
section ring
variable {kk:Int} {ps:List Int} {S M:Nat} {xs ys:List Sv}
theorem jX {k:Int}(h:ik S M [k] xs):∃ x,xs=[x]/\x.of k S M:=by
 match xs,h with
 | [x],h=>exact⟨x,rfl,h.2 0 k x rfl rfl⟩
 | [],h=>simp[ik]at h
 | _::_::_,h=>simp[ik]at h
theorem pU (h:aM kk ps=true)(h6:kk≠6):ps=[]/\single kk=true:=by
 unfold aM at h;rw[if_pos h6]at h;simp only[Qd0,decide_eq_true_eq]at h;exact⟨h.2,h.1⟩
theorem KE (hv:aM kk ps=true)(hS:S<=1000)(h:ik S M (dG kk ps) xs):(bN kk xs).OK:=by
 unfold bN
 by_cases h6:kk=6
 ·subst h6;rw[if_pos rfl];unfold dG at h;rw[if_pos rfl]at h;exact Px hS (Y8 hv).1 h
 ·rw[if_neg h6];unfold dG at h;rw[if_neg h6]at h;obtain⟨x,rfl,hx⟩:=jX h;exact V_ hx hS
theorem DR (hv:aM kk ps=true)(h:ik S M (dG kk ps) xs):fH kk ps (bN kk xs)=true:=by
 unfold bN
 by_cases h6:kk=6
 ·subst h6;rw[if_pos rfl];unfold dG at h;rw[if_pos rfl]at h;exact Dy hv h
 ·rw[if_neg h6];unfold dG at h;rw[if_neg h6]at h;obtain⟨x,rfl,hx⟩:=jX h;unfold fH;rw[hv,if_pos h6];exact V9 hx
theorem H6 (hv:aM kk ps=true):ps.length<=1000000:=by
 by_cases h6:kk=6
 ·subst h6;have:=(Y8 hv).1;omega
 ·rw[(pU hv h6).1];simp
theorem pV (hv:aM kk ps=true)(hS:S<=1000)(h:ik S M (dG kk ps) xs):Ca E1 41 [.d (aU kk ps),.d (bN kk xs).d] (.d (bN kk xs).d,none) :=
 HZ (H6 hv) (KE hv hS h) (DR hv h)
end ring
end
end Fi.S
noncomputable section
namespace Fi.S
open Go Fi
set_option maxHeartbeats 8000000
set_option maxRecDepth 10000
theorem Wv {k:Int}(hk:single k=true):(nH k).w.d=H8 k:=by
 have h1:qs 1=false:=bS;have h2:qn 1=[1]:=by
  show enc 1=[1]
  exact jI ae ae
 have h3:qd 1=[]:=if_pos rfl;have hc:bM 1=[((0,0,0),1)]:=if_neg bS;rcases aN hk with rfl|rfl|rfl|rfl|rfl
 ·simp[nH,H8,Sv.w,W.d,W.ds,PD,LD,LL,h1,h2,h3]
 ·simp[nH,H8,Sv.w,W.d,W.ds,PD,LD,LL]
 ·simp[nH,H8,Sv.w,W.d,W.ds,PD,LD,LL,h1,h2,h3]
 ·simp[nH,H8,Sv.w,W.d,W.ds,PD,LD,LL]
 ·simp[nH,H8,Sv.w,W.d,W.ds,PD,LD,LL,hc,vC,Mo.d,h1,h2,h3,Kr]
theorem aeC {kk:Int}{ps:List Int}(h:aM kk ps=true):(bN kk ((dG kk ps).map nH)).d=Ps kk ps:=by
 have hs:=bV h;unfold bN dG Ps at*
 by_cases h6:kk=6
 ·subst h6;simp only[if_true]at*;have:W.ds ((ps.map nH).map Sv.w)=ps.map H8:=by
   rw[W.gG,Q2,Q2];exact Xk2 fun x hx=>Wv (hs x hx)
  show D.a [vB false,.s 1 [],.s 1 [],vI 0,vB false,.v (.int .u64 0),.s 6 [],.s 8 (W.ds ((ps.map nH).map Sv.w))]=_;rw[this]
 ·simp only[if_neg h6]at*;exact Wv (hs kk aC)
theorem aaQ {kk:Int}{ps:List Int}(h:aM kk ps=true):True/\Ca E1 20 [.d (aU kk ps)] (.d (bN kk ((dG kk ps).map nH)).d,none):=by
 rw[aeC h];exact⟨trivial,aaM h⟩
theorem uJ {kk:Int}{ps:List Int}(h:aM kk ps=true):Ca E1 26 [.d (aU kk ps)] (.d (bN kk ((dG kk ps).map dO)).d,none):=by
 have h1:=Wh h;have e:Kt kk ps=bN kk ((dG kk ps).map dO):=by
  unfold Kt bN dG
  by_cases h6:kk=6
  ·simp only[if_pos h6,Q2];rfl
  ·simp only[if_neg h6];rfl
 rw[e]at h1;exact h1
noncomputable def pW (kk:Int) (ps:List Int) (v:Int):List Sv:=if kk=6 then(List.range ps.length).map fun i=>Dv (ps.getD i 0) (ak .i64 (v+i)) else [Dv kk v]
theorem Ny (z:Int):ib (ak .i64 z):=by
 have h:=Go.wf_wrap .i64 z;rw[cZ];exact wf_i64 h
theorem Gc {kk:Int}{ps:List Int}(h:aM kk ps=true)(v:Int):ik 9 2 (dG kk ps) (pW kk ps v):=by
 have hs:=bV h;unfold pW dG at*
 by_cases h6:kk=6
 ·simp only[if_pos h6]at*;refine⟨aC,fun i k x hk hx => ?_⟩;have hi:i<ps.length:=(aT hk)
  rw[Qb1,Xs0 hi]at hx;simp only[Q11,Qe0]at hx;subst hx;have hg:ps.getD i 0=k:=by rw[Qj0,hk];rfl
  rw[hg];exact Pt (hs k (Qa2 hk)) _
 ·simp only[if_neg h6]at*;refine⟨rfl,fun i k x hk hx => ?_⟩
  match i with
  | 0 =>
   cases hk;cases hx;exact Pt (hs kk aC) v
  | i+1=>cases hk
theorem TG:ak .i64 1=1:=wrap_i64 ae
theorem eO {k:Int}(hk:single k=true):aM k []=true/\k≠6:=by
 have h6:k≠6:=by
  rintro rfl;exact absurd hk bS
 exact⟨by unfold aM;rw[if_pos h6,hk];rfl,h6⟩
theorem mk_one {k:Int}(hk:single k=true)(x:Sv):bN k [x]=x.w:=if_neg (eO hk).2
theorem aaR {k:Int}(hk:single k=true){S M:Nat}{x:Sv}(h:x.of k S M):ik S M (dG k []) [x]:=by
 unfold dG;rw[if_neg (eO hk).2];exact⟨rfl,fun i k' x' h1 h2=>by
  match i with
  | 0=>cases h1;cases h2;exact h
  | i+1=>cases h1⟩
theorem Pz (x:Rat):∃ s n d,(Sv.q x).w.d=wD s n d 0 false 0 [] []/\qD x=.a [vB s,.s 1 n,.s 1 d]:=⟨_,_,_,rfl,rfl⟩
theorem uK {k:Int}(hk:single k=true):Ca E1 35 [.d (aU k [])] (.d (dO k).w.d,none):=by
 have tv:=Ca.gM (Ca.bQ (fJ 0 k []));rw[(eO hk).1]at tv;have e2:∀ b,W.d (.mk false [] [] 0 b 0 [] [])=wD false [] [] 0 b 0 [] []:=fun _=>rfl
 have eq0:(Sv.q 0).w.d=wD false [] [] 0 false 0 [] []:=by
  have h:=uE;obtain⟨s,n,d,e1,g1⟩:=Pz 0;rw[e1];rw[g1]at h;simp only[D.a.injEq,Xt0,D.v.injEq,Value.bool.injEq,D.s.injEq,true_and,and_true]at h;obtain⟨rfl,rfl,rfl⟩:=h;rfl
 have e:(dO k).w.d=wD false [] [] 0 (k==2) 0 [] []:=by
  rcases aN hk with rfl|rfl|rfl|rfl|rfl
  ·exact eq0
  ·exact e2 _
  ·exact eq0
  ·exact e2 _
  ·exact e2 _
 rw[e];obtain⟨m0,a0⟩:=(tv).any;clear e e2 eq0 tv;refine Ca.bQ (n:=m0+300) ?_;replace a0:=a0 m0 ae;rw[aA rfl (aO 35 f35:E1.fn _=_) rfl];unfold wD aU at*;simp only[show LK .i64 []=[] from rfl]at*;rcases aN hk with rfl|rfl|rfl|rfl|rfl<;>simp[aD,f35,a0]
end Fi.S
