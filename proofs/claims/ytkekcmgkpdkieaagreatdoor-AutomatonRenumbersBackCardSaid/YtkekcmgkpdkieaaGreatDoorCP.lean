import Derived.Test.YtkekcmgkpdkieaaGreatDoorCO
set_option linter.unusedVariables false
set_option linter.unusedSimpArgs false
noncomputable section
namespace Fi.S
open Go Fi
set_option maxHeartbeats 1000000
theorem QA (a b:fM):gG a b=gG b a:=by simp[gG,Int.add_comm]
theorem MF (a b c:fM):gG (gG a b) c=gG a (gG b c):=by simp[gG,Int.add_assoc]
theorem QB {S:Nat}(hS:1<=S){a b:List aZ}(ha:PV S a)(hb:PV S b):gu a b=gu b a :=
 PV.ext (gI hS hS ha hb) (gI hS hS hb ha) (fun e=>by rw[jK,jK];grind)
theorem MG {S:Nat}(hS:1<=S){a b c:List aZ}(ha:PV S a)(hb:PV S b)(hc:PV S c):gu (gu a b) c=gu a (gu b c) :=
 PV.ext (gI omK hS (gI hS hS ha hb) hc) (gI hS omK ha (gI hS hS hb hc)) (fun e=>by simp only[jK];grind)
theorem Ve {S:Nat}(hS:1<=S){a:List aZ}(ha:PV S a):gu a []=a :=
 PV.ext (gI hS hS ha (PV.nil S)) ha (fun e=>by rw[jK];simp only[tot];grind)
def cv (a:List aZ)(f:fM->Rat)(e:fM):Rat:=match a with
 | []=>0
 | p::r=>p.2*f (e.1-p.1.1,e.2.1-p.1.2.1,e.2.2-p.1.2.2)+cv r f e
def Cs (e a:fM):fM:=(e.1-a.1,e.2.1-a.2.1,e.2.2-a.2.2)
theorem OC (a b e:fM):gG a b=e↔b=Cs e a:=by
 obtain⟨a1,a2,a3⟩:=a;obtain⟨b1,b2,b3⟩:=b;obtain⟨e1,e2,e3⟩:=e;simp only[gG,Cs,Qm2];omega
theorem Fq (p:aZ)(e:fM):∀ b:List aZ,tot (bT p b) e=p.2*tot b (Cs e p.1)
 | []=>by simp only[bT,Qc0,tot];grind
 | q::r=>by
  have ih:=Fq p e r;have h1:bT p (q::r)=(gG p.1 q.1,p.2*q.2)::bT p r:=rfl;obtain⟨qe,y⟩:=q;rw[h1];simp only[tot,ih]
  by_cases h:gG p.1 qe=e
  ·rw[if_pos h,if_pos ((OC _ _ _).1 h)];grind
  ·rw[if_neg h,if_neg (fun h2=>h ((OC _ _ _).2 h2))];grind
theorem gV (b:List aZ)(e:fM):∀ a:List aZ,tot (bE a b) e=cv a (tot b) e
 | []=>rfl
 | p::a=>by
  have h1:bE (p::a) b=bT p b++bE a b:=by simp[bE]
  rw[h1,jl,gV b e a,Fq];rfl
theorem Ct (l:List aZ)(e:fM):tot (l.filter fun p=>bR p.1) e=if bR e=true then tot l e else 0:=by
 induction l with
 | nil=>simp[tot]
 | cons p r ih =>
  obtain⟨a,y⟩:=p
  by_cases h:bR a=true
  ·rw[Xg0 (p:=fun p:aZ=>bR p.1) h];simp only[tot,ih]
   by_cases h2:a=e
   ·subst h2;simp[h]
   ·simp only[if_neg h2];split<;>grind
  ·rw[Xf2 (p:=fun p:aZ=>bR p.1) h,ih];simp only[tot]
   by_cases h2:a=e
   ·subst h2;simp[h]
   ·simp only[if_neg h2];split<;>grind
theorem l_ (a b:List aZ)(e:fM):tot (iH a b) e=if bR e=true then cv a (tot b) e else 0:=by
 rw[wV,<-l5,Ct,gV]
theorem Vf (f g:fM->Rat)(e:fM):∀ a,cv a (fun x=>f x+g x) e=cv a f e+cv a g e
 | []=>by simp only[cv];grind
 | p::a=>by simp only[cv,Vf f g e a];grind
theorem kP (e:fM):∀ a b:List aZ,tot (bE a b) e=tot (bE b a) e:=by
 have ahV:∀ a:List aZ,bE a []=[]:=fun a=>by
  induction a with
  | nil=>rfl
  | cons p r ih =>
   have h1:bE (p::r) []=bT p []++bE r []:=by simp[bE]
   rw[h1,ih];rfl
 have afC:∀ (q:aZ) (b a:List aZ),tot (bE a (q::b)) e=tot (bT q a) e+tot (bE a b) e:=by
  intro q b a
  induction a with
  | nil=>simp only[bE,bT,List.flatMap_nil,Qc0,tot];grind
  | cons p r ih =>
   have h1:bE (p::r) (q::b)=bT p (q::b)++bE r (q::b):=by simp[bE]
   have h2:bE (p::r) b=bT p b++bE r b:=by simp[bE]
   have h3:bT p (q::b)=(gG p.1 q.1,p.2*q.2)::bT p b:=rfl;have h4:bT q (p::r)=(gG q.1 p.1,q.2*p.2)::bT q r:=rfl;rw[h1,h2,jl,jl,h3,h4,ih];simp only[tot,QA q.1 p.1];grind
 intro a
 induction a with
 | nil=>intro b;rw[ahV];rfl
 | cons p r ih =>
  intro b;have h1:bE (p::r) b=bT p b++bE r b:=by simp[bE]
  rw[h1,jl,afC,ih]
theorem QC {S:Nat}(hS:1<=S){a b:List aZ}(ha:PV S a)(hb:PV S b):iH a b=iH b a :=
 PV.ext (h_ hS ha hb) (h_ hS hb ha) (fun e=>by
  rw[wV,wV,<-l5,<-l5,Ct,Ct,kP])
theorem Vg {S:Nat}(hS:1<=S){a b c:List aZ}(ha:PV S a)(hb:PV S b)(hc:PV S c):iH a (gu b c)=gu (iH a b) (iH a c):=by
 have h1:=gI hS hS hb hc;refine PV.ext (h_ hS ha h1) (gI omK omK (h_ hS ha hb) (h_ hS ha hc)) (fun e => ?_);rw[jK,l_,l_,l_];have h2:tot (gu b c)=fun x=>tot b x+tot c x:=by funext x;exact jK b c x
 rw[h2,Vf];split<;>grind
theorem zM (p:aZ)(c:List aZ):∀ b:List aZ,bE (bT p b) c=bT p (bE b c)
 | []=>rfl
 | q::b=>by
  have h1:bT p (q::b)=(gG p.1 q.1,p.2*q.2)::bT p b:=rfl;have h2:∀ (x:aZ) (r:List aZ),bE (x::r) c=bT x c++bE r c:=fun x r=>by simp[bE]
  rw[h1,h2,h2,zM p c b];have h3:bT p (bT q c++bE b c)=bT p (bT q c)++bT p (bE b c):=by simp[bT]
  rw[h3]
  congr 1
  unfold bT;rw[Q42];refine Xl0 fun r _ => ?_
  simp only[Function.comp,MF,Rat.mul_assoc]
theorem zN (b c:List aZ):∀ a:List aZ,bE (bE a b) c=bE a (bE b c)
 | []=>rfl
 | p::a=>by
  have h1:bE (p::a) b=bT p b++bE a b:=by simp[bE]
  have h2:bE (p::a) (bE b c)=bT p (bE b c)++bE a (bE b c):=by simp[bE]
  have h3:bE (bT p b++bE a b) c=bE (bT p b) c++bE (bE a b) c:=by simp[bE,X21]
  rw[h1,h2,h3,zM,zN b c a]
theorem Cu {f g:fM->Rat}{e:fM}:∀ {a:List aZ},(∀ p ∈ a,f (Cs e p.1)=g (Cs e p.1))->cv a f e=cv a g e
 | [],_=>rfl
 | p::a,h=>by
  have h1:=h p (Qj1 ..);have h2:=Cu (a:=a) (fun q hq=>h q (Qh0 _ hq));show p.2*f (Cs e p.1)+cv a f e=p.2*g (Cs e p.1)+cv a g e;rw[h1,h2]
theorem Fs {a b:List aZ}(ha:Fits a)(hb:Fits b){c e:fM}(hc:bR c=true)(he:bR e=true):tot (iH a b) (Cs e c)=tot (bE a b) (Cs e c):=by
 rw[l_,gV];split
 ·rfl
 ·rename_i hf;rw[<-gV];symm;refine kN fun x hx hxe => ?_
  obtain⟨p,hp,hx⟩:=Xz0.1 hx;obtain⟨q,hq,rfl⟩:=Qg2.1 hx;have h1:=fA (ha p hp);have h2:=fA (hb q hq);have h3:=fA hc;have h4:=fA he;apply hf;rw[Us,<-hxe];have h5:gG p.1 q.1=Cs e c:=hxe;simp only[gG,Cs,Qm2]at h5 ⊢;omega
theorem MH {S:Nat}(hS:1<=S){a b c:List aZ}(ha:PV S a)(hb:PV S b)(hc:PV S c):iH (iH a b) c=iH a (iH b c):=by
 have h1:=h_ hS ha hb;have h2:=h_ hS hb hc;refine PV.ext (h_ omK h1 hc) (h_ hS ha h2) (fun e => ?_);rw[l_,l_];split
 ·rename_i he;rw[<-gV,kP,gV,Cu (g:=tot (bE a b)) (fun p hp=>Fs ha.fits hb.fits (hc.fits p hp) he),<-gV,kP,zN,gV];exact Cu fun p hp=>(Fs hb.fits hc.fits (ha.fits p hp) he).symm
 ·rfl
theorem Vh {S:Nat}(hS:1<=S){a:List aZ}(ha:PV S a)(h1:PV S (bX 1)):iH a (bX 1)=a:=by
 refine PV.ext (h_ hS ha h1) ha (fun e => ?_);have hc:bX 1=[((0,0,0),1)]:=if_neg (by decide);rw[l_,<-gV,kP,hc,gV];have h2:cv [((0,0,0),(1:Rat))] (tot a) e=tot a e:=by
  simp only[cv];have h3:((e.1-0,e.2.1-0,e.2.2-0):fM)=e:=by
   obtain⟨x,y,z⟩:=e;simp
  rw[h3];grind
 rw[h2];split
 ·rfl
 ·rename_i hf;exact(kN fun p hp hpe=>hf (by rw[<-hpe];exact ha.fits p hp)).symm
theorem Cv (x:BitVec 64):IntKind.wrap .u64 (x.toNat:Int)=(x.toNat:Int):=by
 have h:=x.isLt;rw[<-cK];exact wrap_u64 omK
theorem Cw (u v:Int):Bj .u64 u v=((BitVec.ofInt 64 u ||| BitVec.ofInt 64 v).toNat:Int):=by
 rw[yx];exact Cv _
theorem uh (u v:Int):nP .u64 u v=((BitVec.ofInt 64 u &&& BitVec.ofInt 64 v).toNat:Int):=by
 rw[Az];exact Cv _
theorem Cy (x:BitVec 64):BitVec.ofInt 64 (x.toNat:Int)=x:=by simp
theorem aaM {u:Int}(h:Ah u):((BitVec.ofInt 64 u).toNat:Int)=u:=by
 unfold Ah at h;rw[BitVec.toNat_ofInt];omega
theorem or_comm (u v:Int):Bj .u64 u v=Bj .u64 v u:=by rw[Cw,Cw,BitVec.or_comm]
theorem and_comm (u v:Int):nP .u64 u v=nP .u64 v u:=by rw[uh,uh,BitVec.and_comm]
theorem or_assoc (u v w:Int):Bj .u64 (Bj .u64 u v) w=Bj .u64 u (Bj .u64 v w):=by
 simp only[Cw,Cy,BitVec.or_assoc]
theorem and_assoc (u v w:Int):nP .u64 (nP .u64 u v) w=nP .u64 u (nP .u64 v w):=by
 simp only[uh,Cy,BitVec.and_assoc]
theorem acK (u v w:Int):nP .u64 u (Bj .u64 v w)=Bj .u64 (nP .u64 u v) (nP .u64 u w):=by
 simp only[Cw,uh,Cy]
 congr 2
 ext i
 simp[Bool.and_or_distrib_left]
theorem or_zero {u:Int}(h:Ah u):Bj .u64 u 0=u:=by
 rw[Cw];have h0:BitVec.ofInt 64 0=0#64:=rfl;rw[h0,BitVec.or_zero,aaM h]
theorem and_ones {u:Int}(h:Ah u):nP .u64 u 18446744073709551615=u:=by
 rw[uh];have h0:BitVec.ofInt 64 18446744073709551615=BitVec.allOnes 64:=by decide
 rw[h0,BitVec.and_allOnes,aaM h]
section
theorem wX {S M:Nat}{x:Sv}(h:x.of 1 S M):∃ q,x=.q q/\qz q<=S:=by
 cases x with
 | q x=>exact⟨x,rfl,h.2⟩
 | c i n=>exact absurd h.1 (by decide)
 | s u=>exact absurd h.1 (by decide)
 | p a=>exact absurd h.1 (by decide)
theorem wY {S M:Nat}{x:Sv}(h:x.of 2 S M):∃ i n,x=.c i n/\0<=n/\n<=1099511627776/\(i=true->n=0):=by
 cases x with
 | c i n=>exact⟨i,n,rfl,h.2⟩
 | q x=>rcases h.1 with h | h;exact absurd h (by decide);exact absurd h.1 (by decide)
 | s u=>exact absurd h.1 (by decide)
 | p a=>exact absurd h.1 (by decide)
theorem wZ {S M:Nat}{x:Sv}(h:x.of 3 S M):∃ q,x=.q q/\0<=q/\q<=1/\qz q<=S:=by
 cases x with
 | q x =>
  rcases h.1 with h1|h1
  ·exact absurd h1 (by decide)
  ·exact⟨x,rfl,h1.2.1,h1.2.2,h.2⟩
 | c i n=>exact absurd h.1 (by decide)
 | s u=>exact absurd h.1 (by decide)
 | p a=>exact absurd h.1 (by decide)
theorem w9 {S M:Nat}{x:Sv}(h:x.of 4 S M):∃ u,x=.s u/\Ah u:=by
 cases x with
 | s u=>exact⟨u,rfl,h.2⟩
 | q x=>rcases h.1 with h | h;exact absurd h (by decide);exact absurd h.1 (by decide)
 | c i n=>exact absurd h.1 (by decide)
 | p a=>exact absurd h.1 (by decide)
theorem w_ {S M:Nat}{x:Sv}(h:x.of 5 S M):∃ a,x=.p a/\PV S a/\a.length<=M:=by
 cases x with
 | p a=>exact⟨a,rfl,h.2⟩
 | q x=>rcases h.1 with h | h;exact absurd h (by decide);exact absurd h.1 (by decide)
 | c i n=>exact absurd h.1 (by decide)
 | s u=>exact absurd h.1 (by decide)
def oq (k:Int):Sv:=if k=2 then .c false 0 else if k=4 then .s 18446744073709551615 else if k=5 then .p (bX 1) else .q 1
theorem Y6 {k:Int}(hk:single k=true)(S M:Nat)(hS:1<=S)(hM:1<=M):(oq k).of k S M:=by
 rcases aO hk with rfl|rfl|rfl|rfl|rfl
 ·exact⟨.inl rfl,Qc2 yG hS⟩
 ·exact⟨rfl,by decide,by decide,fun _=>rfl⟩
 ·exact⟨.inr ⟨rfl,by decide,by decide⟩,Qc2 yG hS⟩
 ·exact⟨rfl,by decide,by decide⟩
 ·exact⟨rfl,kg (Qc2 yG hS),Qc2 (yN 1) hM⟩
theorem pl1 (x y:Rat):dB 1 (.q x) (.q y)=.q (x+y):=rfl
theorem pl3 (x y:Rat):dB 3 (.q x) (.q y)=.q (if x<y then y else x):=by
 show(if x<y then Sv.q y else .q x)=_;split<;>rfl
theorem Y7 (i j:Bool)(n m:Int):dB 2 (.c i n) (.c j m)=if nA j m i n then .c j m else .c i n:=rfl
theorem pl4 (u v:Int):dB 4 (.s u) (.s v)=.s (Bj .u64 u v):=rfl
theorem pl5 (a b:List aZ):dB 5 (.p a) (.p b)=.p (gu a b):=rfl
theorem Xy (x y:Rat):dm (.q x) (.q y)=.q (x*y):=rfl
theorem Vi (i j:Bool)(n m:Int):dm (.c i n) (.c j m)=if i||(j||decide (1099511627776<n+m)) then .c true 0 else .c false (n+m):=rfl
theorem ti4 (u v:Int):dm (.s u) (.s v)=.s (nP .u64 u v):=rfl
theorem ti5 (a b:List aZ):dm (.p a) (.p b)=.p (iH a b):=rfl
section laws
variable {k:Int} {S M:Nat} {x y z:Sv}
theorem acN {a b:Rat}(ha:0<=a/\a<=1)(hb:0<=b/\b<=1):0<=a*b/\a*b<=1:=by
 have h1:0<=a*b:=Rat.mul_nonneg ha.1 hb.1;have h2:0<=a*(1-b):=Rat.mul_nonneg ha.1 (by grind);constructor
 ·exact h1
 ·grind
theorem Vj (hk:single k=true)(hS:1<=S)(hM:1<=M)(hx:x.of k S M)(hy:y.of k S M):(dm x y).of k (M*(S+S+1)+1) (M*M):=by
 have hb:S+S<=M*(S+S+1)+1:=by
  have:=Qe1 (S+S+1) hM;omega
 rcases aO hk with rfl|rfl|rfl|rfl|rfl
 ·obtain⟨a,rfl,ha⟩:=wX hx;obtain⟨b,rfl,hb'⟩:=wX hy;have:=BA a b;exact⟨.inl rfl,show qz (a*b)<=_ by omega⟩
 ·obtain⟨i,n,rfl,h1,h2,h3⟩:=wY hx;obtain⟨j,m,rfl,g1,g2,g3⟩:=wY hy;rw[Vi];split
  ·exact⟨rfl,by decide,by decide,fun _=>rfl⟩
  ·rename_i h;simp at h;exact⟨rfl,by omega,by omega,fun h=>by cases h⟩
 ·obtain⟨a,rfl,a0,a1,ha⟩:=wZ hx;obtain⟨b,rfl,b0,b1,hb'⟩:=wZ hy;have:=BA a b;exact⟨.inr ⟨rfl,acN ⟨a0,a1⟩ ⟨b0,b1⟩⟩,show qz (a*b)<=_ by omega⟩
 ·obtain⟨u,rfl,hu⟩:=w9 hx;obtain⟨v,rfl,hv⟩:=w9 hy;refine⟨rfl,?_⟩;show Ah (nP .u64 u v);rw[uh];have:=(BitVec.ofInt 64 u &&& BitVec.ofInt 64 v).isLt;unfold Ah;omega
 ·obtain⟨a,rfl,ha,la⟩:=w_ hx;obtain⟨b,rfl,hb',lb⟩:=w_ hy;refine⟨rfl,(h_ hS ha hb').mono ?_,Qc2 (zH a b) (Q72 la lb)⟩;exact X10 (Qe1 _ la) 1
theorem QD (hk:single k=true)(hS:1<=S)(hx:x.of k S M)(hy:y.of k S M):dB k x y=dB k y x:=by
 rcases aO hk with rfl|rfl|rfl|rfl|rfl
 ·obtain⟨a,rfl,_⟩:=wX hx;obtain⟨b,rfl,_⟩:=wX hy;rw[pl1,pl1,Rat.add_comm]
 ·obtain⟨i,n,rfl,h1,h2,h3⟩:=wY hx;obtain⟨j,m,rfl,g1,g2,g3⟩:=wY hy;rw[Y7,Y7];unfold nA;cases i<;>cases j<;>simp at*<;>(repeat' split)<;>simp_all<;>omega
 ·obtain⟨a,rfl,_⟩:=wZ hx;obtain⟨b,rfl,_⟩:=wZ hy;rw[pl3,pl3]
  congr 1
  split<;>split<;>grind
 ·obtain⟨u,rfl,_⟩:=w9 hx;obtain⟨v,rfl,_⟩:=w9 hy;rw[pl4,pl4,or_comm]
 ·obtain⟨a,rfl,ha,_⟩:=w_ hx;obtain⟨b,rfl,hb,_⟩:=w_ hy;rw[pl5,pl5,QB hS ha hb]
theorem MI (hk:single k=true)(hS:1<=S)(hx:x.of k S M)(hy:y.of k S M):dm x y=dm y x:=by
 rcases aO hk with rfl|rfl|rfl|rfl|rfl
 ·obtain⟨a,rfl,_⟩:=wX hx;obtain⟨b,rfl,_⟩:=wX hy;rw[Xy,Xy,Rat.mul_comm]
 ·obtain⟨i,n,rfl,h1,h2,h3⟩:=wY hx;obtain⟨j,m,rfl,g1,g2,g3⟩:=wY hy;rw[Vi,Vi,Int.add_comm m n];cases i<;>cases j<;>rfl
 ·obtain⟨a,rfl,_⟩:=wZ hx;obtain⟨b,rfl,_⟩:=wZ hy;rw[Xy,Xy,Rat.mul_comm]
 ·obtain⟨u,rfl,_⟩:=w9 hx;obtain⟨v,rfl,_⟩:=w9 hy;rw[ti4,ti4,and_comm]
 ·obtain⟨a,rfl,ha,_⟩:=w_ hx;obtain⟨b,rfl,hb,_⟩:=w_ hy;rw[ti5,ti5,QC hS ha hb]
theorem MJ (hk:single k=true)(hS:1<=S)(hx:x.of k S M)(hy:y.of k S M)(hz:z.of k S M):dB k (dB k x y) z=dB k x (dB k y z):=by
 rcases aO hk with rfl|rfl|rfl|rfl|rfl
 ·obtain⟨a,rfl,_⟩:=wX hx;obtain⟨b,rfl,_⟩:=wX hy;obtain⟨c,rfl,_⟩:=wX hz;simp only[pl1,Rat.add_assoc]
 ·obtain⟨i,n,rfl,h1,h2,h3⟩:=wY hx;obtain⟨j,m,rfl,g1,g2,g3⟩:=wY hy;obtain⟨o,l,rfl,f1,f2,f3⟩:=wY hz;rw[Y7,Y7]
  by_cases a:nA j m i n=true<;>by_cases b:nA o l j m=true<;>simp only[a,b,if_true,if_false,Qi0,Y7]<;>unfold nA at*<;>cases i<;>cases j<;>cases o<;>simp at*<;>(repeat' split)<;>simp_all<;>omega
 ·obtain⟨a,rfl,_⟩:=wZ hx;obtain⟨b,rfl,_⟩:=wZ hy;obtain⟨c,rfl,_⟩:=wZ hz;simp only[pl3]
  congr 1
  repeat' split
  all_goals grind
 ·obtain⟨u,rfl,_⟩:=w9 hx;obtain⟨v,rfl,_⟩:=w9 hy;obtain⟨w,rfl,_⟩:=w9 hz;simp only[pl4,or_assoc]
 ·obtain⟨a,rfl,ha,_⟩:=w_ hx;obtain⟨b,rfl,hb,_⟩:=w_ hy;obtain⟨c,rfl,hc,_⟩:=w_ hz;simp only[pl5,MG hS ha hb hc]
theorem JD (hk:single k=true)(hS:1<=S)(hx:x.of k S M)(hy:y.of k S M)(hz:z.of k S M):dm (dm x y) z=dm x (dm y z):=by
 rcases aO hk with rfl|rfl|rfl|rfl|rfl
 ·obtain⟨a,rfl,_⟩:=wX hx;obtain⟨b,rfl,_⟩:=wX hy;obtain⟨c,rfl,_⟩:=wX hz;simp only[Xy,Rat.mul_assoc]
 ·obtain⟨i,n,rfl,h1,h2,h3⟩:=wY hx;obtain⟨j,m,rfl,g1,g2,g3⟩:=wY hy;obtain⟨o,l,rfl,f1,f2,f3⟩:=wY hz;rw[Vi,Vi]
  by_cases a:1099511627776<n+m<;>by_cases b:1099511627776<m+l<;>cases i<;>cases j<;>cases o<;>(try simp[a,b,Vi])<;>(try (repeat' split))<;>first|done|rfl|omega|(congr 1;omega)|(simp_all;omega)
 ·obtain⟨a,rfl,_⟩:=wZ hx;obtain⟨b,rfl,_⟩:=wZ hy;obtain⟨c,rfl,_⟩:=wZ hz;simp only[Xy,Rat.mul_assoc]
 ·obtain⟨u,rfl,_⟩:=w9 hx;obtain⟨v,rfl,_⟩:=w9 hy;obtain⟨w,rfl,_⟩:=w9 hz;simp only[ti4,and_assoc]
 ·obtain⟨a,rfl,ha,_⟩:=w_ hx;obtain⟨b,rfl,hb,_⟩:=w_ hy;obtain⟨c,rfl,hc,_⟩:=w_ hz;simp only[ti5,MH hS ha hb hc]
theorem MK (hk:single k=true)(hS:1<=S)(hx:x.of k S M)(hy:y.of k S M)(hz:z.of k S M):dm x (dB k y z)=dB k (dm x y) (dm x z):=by
 rcases aO hk with rfl|rfl|rfl|rfl|rfl
 ·obtain⟨a,rfl,_⟩:=wX hx;obtain⟨b,rfl,_⟩:=wX hy;obtain⟨c,rfl,_⟩:=wX hz;simp only[Xy,pl1,Rat.mul_add]
 ·obtain⟨i,n,rfl,h1,h2,h3⟩:=wY hx;obtain⟨j,m,rfl,g1,g2,g3⟩:=wY hy;obtain⟨o,l,rfl,f1,f2,f3⟩:=wY hz;rw[Vi,Vi,Y7]
  by_cases a:1099511627776<n+m<;>by_cases b:1099511627776<n+l<;>by_cases c:l<m<;>cases i<;>cases j<;>cases o<;>(try simp[a,b,c,Vi,Y7,nA])<;>(try (repeat' split))<;>first|done|rfl|omega|(congr 1;omega)|(simp_all;omega)
 ·obtain⟨a,rfl,a0,a1,_⟩:=wZ hx;obtain⟨b,rfl,_⟩:=wZ hy;obtain⟨c,rfl,_⟩:=wZ hz;simp only[Xy,pl3]
  congr 1
  split
  ·rename_i h;have h1:0<=a*(c-b):=Rat.mul_nonneg a0 (by grind);split
   ·rfl
   ·grind
  ·rename_i h;have h1:0<=a*(b-c):=Rat.mul_nonneg a0 (by grind);split
   ·grind
   ·rfl
 ·obtain⟨u,rfl,_⟩:=w9 hx;obtain⟨v,rfl,_⟩:=w9 hy;obtain⟨w,rfl,_⟩:=w9 hz;simp only[ti4,pl4,acK]
 ·obtain⟨a,rfl,ha,_⟩:=w_ hx;obtain⟨b,rfl,hb,_⟩:=w_ hy;obtain⟨c,rfl,hc,_⟩:=w_ hz;simp only[ti5,pl5,Vg hS ha hb hc]
theorem QE (hk:single k=true)(hS:1<=S)(hx:x.of k S M):dB k x (dF k)=x:=by
 rcases aO hk with rfl|rfl|rfl|rfl|rfl
 ·obtain⟨a,rfl,_⟩:=wX hx;show Sv.q (a+0)=_;rw[Rat.add_zero]
 ·obtain⟨i,n,rfl,h1,h2,h3⟩:=wY hx;show(if nA true 0 i n then Sv.c true 0 else .c i n)=_;rfl
 ·obtain⟨a,rfl,a0,_⟩:=wZ hx;show dB 3 (.q a) (.q 0)=_;rw[pl3,if_neg (by grind)]
 ·obtain⟨u,rfl,hu⟩:=w9 hx;show Sv.s (Bj .u64 u 0)=_;rw[or_zero hu]
 ·obtain⟨a,rfl,ha,_⟩:=w_ hx;show Sv.p (gu a [])=_;rw[Ve hS ha]
theorem QF (hk:single k=true)(hS:1<=S)(hx:x.of k S M):dm x (oq k)=x:=by
 rcases aO hk with rfl|rfl|rfl|rfl|rfl
 ·obtain⟨a,rfl,_⟩:=wX hx;show Sv.q (a*1)=_;rw[Rat.mul_one]
 ·obtain⟨i,n,rfl,h1,h2,h3⟩:=wY hx;show(if i||(false||decide (1099511627776<n+0)) then Sv.c true 0 else .c false (n+0))=_;cases i
  ·have:¬ 1099511627776<n+0:=by omega
   simp[this];omega
  ·rw[h3 rfl];rfl
 ·obtain⟨a,rfl,_⟩:=wZ hx;show Sv.q (a*1)=_;rw[Rat.mul_one]
 ·obtain⟨u,rfl,hu⟩:=w9 hx;show Sv.s (nP .u64 u 18446744073709551615)=_;rw[and_ones hu]
 ·obtain⟨a,rfl,ha,_⟩:=w_ hx;show Sv.p (iH a (bX 1))=_;rw[Vh hS ha (kg (Qc2 yG hS))]
end laws
end
set_option maxHeartbeats 8000000
section
def dz (kk:Int)(ps:List Int):List Int:=if kk=6 then ps else [kk]
def bS (kk:Int)(xs:List Sv):W:=if kk=6 then fQ (xs.map Sv.w) else(xs.headD (.q 0)).w
noncomputable def bu (xs ys:List Sv):List Sv:=(xs.zip ys).map fun p=>dm p.1 p.2
theorem aQ {kk:Int}{ps:List Int}(h:aJ kk ps=true):∀ k ∈ dz kk ps,single k=true:=by
 unfold dz;split
 ·rename_i h6;subst h6;exact(rg6 h).2.2
 ·rename_i h6;unfold aJ at h;rw[if_pos h6]at h;simp only[Qb2]at h;intro k hk;rw[Q2]at hk;subst hk;exact h.1
theorem dX {xs ys:List Sv}{i:Nat}{z:Sv}(h:(bu xs ys)[i]?=some z):∃ x y,xs[i]?=some x/\ys[i]?=some y/\z=dm x y:=by
 unfold bu at h;rw[Qb1,Qf1]at h;obtain⟨⟨x,y⟩,h1,rfl⟩:=h;rw[Q92]at h1;exact⟨x,y,h1.1,h1.2,rfl⟩
theorem ML {S M:Nat}(hS:1<=S)(hM:1<=M){ks:List Int}(hs:∀ k ∈ ks,single k=true){xs ys:List Sv}(hx:gU S M ks xs)(hy:gU S M ks ys):gU (M*(S+S+1)+1) (M*M) ks (bu xs ys):=by
 refine⟨by simp[bu,hx.1,hy.1],fun i k z hk hz => ?_⟩;obtain⟨x,y,h2,h3,rfl⟩:=dX hz;exact Vj (hs k (Qa2 hk)) hS hM (hx.2 i k x hk h2) (hy.2 i k y hk h3)
theorem gU.mono {S T M M':Nat}{ks:List Int}{xs:List Sv}(h:gU S M ks xs)(hST:S<=T)(hM:M<=M'):gU T M' ks xs:=⟨h.1,fun i k x hk hx=>(h.2 i k x hk hx).mono hST hM⟩
theorem ma {ks:List Int}{l m:List Sv}(hl:l.length=ks.length)(hm:m.length=ks.length)(h:∀ (i:Nat) (k:Int) (x y:Sv),ks[i]?=some k->l[i]?=some x->m[i]?=some y->x=y):l=m:=by
 refine List.ext_getElem omK (fun i h1 h2 => ?_);exact h i (ks[i]'(by omega)) _ _ (Qa0 omK) (Qa0 h1) (Qa0 h2)
theorem cz {α:Type}{l:List α}{i:Nat}{x y:α}(h1:l[i]?=some x)(h2:l[i]?=some y):x=y:=by
 rw[h1]at h2;exact Qo2 h2
section laws
variable {S M:Nat} {ks:List Int} {xs ys zs:List Sv}
theorem iP (hx:xs.length=ks.length)(hy:ys.length=ks.length):(bL ks xs ys).length=ks.length:=by simp[bL,hx,hy]
theorem eB (hx:xs.length=ks.length)(hy:ys.length=ks.length):(bu xs ys).length=ks.length:=by simp[bu,hx,hy]
theorem MM (hS:1<=S)(hs:∀ k ∈ ks,single k=true)(hx:gU S M ks xs)(hy:gU S M ks ys):bL ks xs ys=bL ks ys xs:=by
 refine ma (iP hx.1 hy.1) (iP hy.1 hx.1) (fun i k u v hk hu hv => ?_);obtain⟨k1,x,y,a1,a2,a3,rfl⟩:=gM hu;obtain⟨k2,y',x',b1,b2,b3,rfl⟩:=gM hv;obtain rfl:=cz hk a1;obtain rfl:=cz hk b1;obtain rfl:=cz a2 b3;obtain rfl:=cz a3 b2;exact QD (hs k (Qa2 hk)) hS (hx.2 i k _ hk a2) (hy.2 i k _ hk a3)
theorem JE (hS:1<=S)(hs:∀ k ∈ ks,single k=true)(hx:gU S M ks xs)(hy:gU S M ks ys):bu xs ys=bu ys xs:=by
 refine ma (eB hx.1 hy.1) (eB hy.1 hx.1) (fun i k u v hk hu hv => ?_);obtain⟨x,y,a2,a3,rfl⟩:=dX hu;obtain⟨y',x',b2,b3,rfl⟩:=dX hv;obtain rfl:=cz a2 b3;obtain rfl:=cz a3 b2;exact MI (hs k (Qa2 hk)) hS (hx.2 i k _ hk a2) (hy.2 i k _ hk a3)
theorem JF (hS:1<=S)(hs:∀ k ∈ ks,single k=true)(hx:gU S M ks xs)(hy:gU S M ks ys)(hz:gU S M ks zs):bL ks (bL ks xs ys) zs=bL ks xs (bL ks ys zs):=by
 refine ma (iP (iP hx.1 hy.1) hz.1) (iP hx.1 (iP hy.1 hz.1)) (fun i k u v hk hu hv => ?_);obtain⟨k1,t,z,a1,a2,a3,rfl⟩:=gM hu;obtain⟨k2,x,y,c1,c2,c3,rfl⟩:=gM a2;obtain⟨k3,x',t',b1,b2,b3,rfl⟩:=gM hv;obtain⟨k4,y',z',d1,d2,d3,rfl⟩:=gM b3;obtain rfl:=cz hk a1;obtain rfl:=cz hk b1;obtain rfl:=cz hk c1;obtain rfl:=cz hk d1;obtain rfl:=cz c2 b2;obtain rfl:=cz c3 d2;obtain rfl:=cz a3 d3;exact MJ (hs k (Qa2 hk)) hS (hx.2 i k _ hk c2) (hy.2 i k _ hk c3) (hz.2 i k _ hk a3)
theorem GM (hS:1<=S)(hs:∀ k ∈ ks,single k=true)(hx:gU S M ks xs)(hy:gU S M ks ys)(hz:gU S M ks zs):bu (bu xs ys) zs=bu xs (bu ys zs):=by
 refine ma (eB (eB hx.1 hy.1) hz.1) (eB hx.1 (eB hy.1 hz.1)) (fun i k u v hk hu hv => ?_);obtain⟨t,z,a2,a3,rfl⟩:=dX hu;obtain⟨x,y,c2,c3,rfl⟩:=dX a2;obtain⟨x',t',b2,b3,rfl⟩:=dX hv;obtain⟨y',z',d2,d3,rfl⟩:=dX b3;obtain rfl:=cz c2 b2;obtain rfl:=cz c3 d2;obtain rfl:=cz a3 d3;exact JD (hs k (Qa2 hk)) hS (hx.2 i k _ hk c2) (hy.2 i k _ hk c3) (hz.2 i k _ hk a3)
theorem JG (hS:1<=S)(hs:∀ k ∈ ks,single k=true)(hx:gU S M ks xs)(hy:gU S M ks ys)(hz:gU S M ks zs):bu xs (bL ks ys zs)=bL ks (bu xs ys) (bu xs zs):=by
 refine ma (eB hx.1 (iP hy.1 hz.1)) (iP (eB hx.1 hy.1) (eB hx.1 hz.1)) (fun i k u v hk hu hv => ?_);obtain⟨x,t,a2,a3,rfl⟩:=dX hu;obtain⟨k2,y,z,c1,c2,c3,rfl⟩:=gM a3;obtain⟨k3,s,t',b1,b2,b3,rfl⟩:=gM hv;obtain⟨x',y',d2,d3,rfl⟩:=dX b2;obtain⟨x'',z',e2,e3,rfl⟩:=dX b3;obtain rfl:=cz hk b1;obtain rfl:=cz hk c1;obtain rfl:=cz a2 d2;obtain rfl:=cz a2 e2;obtain rfl:=cz c2 d3;obtain rfl:=cz c3 e3;exact MK (hs k (Qa2 hk)) hS (hx.2 i k _ hk a2) (hy.2 i k _ hk c2) (hz.2 i k _ hk c3)
theorem nQ {f:Int->Sv}{i:Nat}{k:Int}{z:Sv}(hk:ks[i]?=some k)(h:(ks.map f)[i]?=some z):z=f k:=by
 rw[Qb1,hk]at h;exact(Qo2 h).symm
theorem Cz (hS:1<=S)(hs:∀ k ∈ ks,single k=true)(hx:gU S M ks xs):bL ks xs (ks.map dF)=xs:=by
 refine ma (iP hx.1 (by simp)) hx.1 (fun i k u v hk hu hv => ?_);obtain⟨k1,x,y,a1,a2,a3,rfl⟩:=gM hu;obtain rfl:=cz hk a1;obtain rfl:=cz a2 hv;rw[nQ hk a3];exact QE (hs k (Qa2 hk)) hS (hx.2 i k _ hk a2)
theorem MN (hS:1<=S)(hs:∀ k ∈ ks,single k=true)(hx:gU S M ks xs):bu xs (ks.map oq)=xs:=by
 refine ma (eB hx.1 (by simp)) hx.1 (fun i k u v hk hu hv => ?_);obtain⟨x,y,a2,a3,rfl⟩:=dX hu;obtain rfl:=cz a2 hv;rw[nQ hk a3];exact QF (hs k (Qa2 hk)) hS (hx.2 i k _ hk a2)
theorem JH (hs:∀ k ∈ ks,single k=true)(hx:gU S M ks xs):bu xs (ks.map dF)=ks.map dF:=by
 refine ma (eB hx.1 (by simp)) (by simp) (fun i k u v hk hu hv => ?_);obtain⟨x,y,a2,a3,rfl⟩:=dX hu;rw[nQ hk a3,nQ hk hv];exact Mw (hs k (Qa2 hk)) (hx.2 i k _ hk a2)
theorem kr (hS:1<=S)(hs:∀ k ∈ ks,single k=true):gU S M ks (ks.map dF):=⟨by simp,fun i k x hk hx=>by rw[nQ hk hx];exact U4 (hs k (Qa2 hk)) S M hS⟩
theorem JI (hS:1<=S)(hM:1<=M)(hs:∀ k ∈ ks,single k=true):gU S M ks (ks.map oq):=⟨by simp,fun i k x hk hx=>by rw[nQ hk hx];exact Y6 (hs k (Qa2 hk)) S M hS hM⟩
end laws
section ring
variable {kk:Int} {ps:List Int} {S M:Nat} {xs ys:List Sv}
theorem rQ {k:Int}(h:gU S M [k] xs):∃ x,xs=[x]/\x.of k S M:=by
 match xs,h with
 | [x],h=>exact⟨x,rfl,h.2 0 k x rfl rfl⟩
 | [],h=>simp[gU]at h
 | _::_::_,h=>simp[gU]at h
theorem ui (h:aJ kk ps=true)(h6:kk≠6):ps=[]/\single kk=true:=by
 unfold aJ at h;rw[if_pos h6]at h;simp only[Qb2,decide_eq_true_eq]at h;exact⟨h.2,h.1⟩
theorem JJ (hv:aJ kk ps=true)(hS:S<=1000)(h:gU S M (dz kk ps) xs):(bS kk xs).OK:=by
 unfold bS
 by_cases h6:kk=6
 ·subst h6;rw[if_pos rfl];unfold dz at h;rw[if_pos rfl]at h;exact OB hS (rg6 hv).1 h
 ·rw[if_neg h6];unfold dz at h;rw[if_neg h6]at h;obtain⟨x,rfl,hx⟩:=rQ h;exact U6 hx hS
theorem CJ (hv:aJ kk ps=true)(h:gU S M (dz kk ps) xs):cZ kk ps (bS kk xs)=true:=by
 unfold bS
 by_cases h6:kk=6
 ·subst h6;rw[if_pos rfl];unfold dz at h;rw[if_pos rfl]at h;exact Cr hv h
 ·rw[if_neg h6];unfold dz at h;rw[if_neg h6]at h;obtain⟨x,rfl,hx⟩:=rQ h;unfold cZ;rw[hv,if_pos h6];exact U5 hx
theorem vH (hv:aJ kk ps=true):ps.length<=1000000:=by
 by_cases h6:kk=6
 ·subst h6;have:=(rg6 hv).1;omega
 ·rw[(ui hv h6).1];simp
theorem JK (hv:aJ kk ps=true)(hS:S<=1000)(h:gU S M (dz kk ps) xs):Ca E1 41 [.d (bA kk ps),.d (bS kk xs).d] (.d (bS kk xs).d,none) :=
 GK (vH hv) (JJ hv hS h) (CJ hv h)
theorem OD (hv:aJ kk ps=true)(hS:S<=1000)(hM:(M+M)*(S+1)<=50000)(hx:gU S M (dz kk ps) xs)(hy:gU S M (dz kk ps) ys) :
  Ca E1 14 [.d (bA kk ps),.d (bS kk xs).d,.d (bS kk ys).d] (.d (bS kk (bL (dz kk ps) xs ys)).d,none):=by
 have vx:=JK hv hS hx;have vy:=JK hv hS hy;unfold bS dz at*
 by_cases h6:kk=6
 ·subst h6;simp only[if_true]at*;exact ME hS hM hv _ _ hx hy vx vy
 ·simp only[if_neg h6]at*;obtain⟨rfl,hs⟩:=ui hv h6;obtain⟨x,rfl,hx'⟩:=rQ hx;obtain⟨y,rfl,hy'⟩:=rQ hy;exact U2 hs _ _ _ _ _ vx vy (JB hs hS hM hx' hy')
theorem Y8 (hv:aJ kk ps=true)(hS:S<=1000)(h:gU S M (dz kk ps) xs):Ca E1 12 [.d (bS kk xs).d,.d (bS kk xs).d] (.d (.v (.bool true)),none):=by
 have hok:=JJ hv hS h;have:=yE _ hok _ hok;rw[W.AQ]at this;exact Ca.fP this
end ring
end
end Fi.S
noncomputable section
namespace Fi.S
open Go Fi
set_option maxHeartbeats 8000000
set_option maxRecDepth 10000
theorem Vk {k:Int}(hk:single k=true):(oq k).w.d=GN k:=by
 have h1:qs 1=false:=by decide
 have h2:qn 1=[1]:=by
  show enc 1=[1]
  exact jr omK omK
 have h3:qd 1=[]:=if_pos rfl;have hc:bX 1=[((0,0,0),1)]:=if_neg (by decide);rcases aO hk with rfl|rfl|rfl|rfl|rfl
 ·simp[oq,GN,Sv.w,W.d,W.ds,PD,LD,LL,h1,h2,h3]
 ·simp[oq,GN,Sv.w,W.d,W.ds,PD,LD,LL]
 ·simp[oq,GN,Sv.w,W.d,W.ds,PD,LD,LL,h1,h2,h3]
 ·simp[oq,GN,Sv.w,W.d,W.ds,PD,LD,LL]
 ·simp[oq,GN,Sv.w,W.d,W.ds,PD,LD,LL,hc,uO,Mo.d,h1,h2,h3,JL]
theorem acO {kk:Int}{ps:List Int}(h:aJ kk ps=true):(bS kk ((dz kk ps).map oq)).d=Fj kk ps:=by
 have hs:=aQ h;unfold bS dz Fj at*
 by_cases h6:kk=6
 ·subst h6;simp only[if_true]at*;have:W.ds ((ps.map oq).map Sv.w)=ps.map GN:=by
   rw[W.gX,Q42,Q42];exact Xl0 fun x hx=>Vk (hs x hx)
  show D.a [.v (.bool false),.s 1 [],.s 1 [],.v (.int .i64 0),.v (.bool false),.v (.int .u64 0),.s 6 [],.s 8 (W.ds ((ps.map oq).map Sv.w))]=_;rw[this]
 ·simp only[if_neg h6]at*;exact Vk (hs kk (by simp))
theorem MO (k:Int):(rP k=6/\(zK k=[1,2]\/zK k=[3,4,5]))\/((rP k=1\/rP k=2\/rP k=3\/rP k=4\/rP k=5)/\zK k=[]):=by
 have h1:=Qn0 k (show(7:Int)≠0 by omega);have h2:=Ql0 k (show(0:Int)<7 by omega);unfold rP zK
 by_cases h5:k % 7=5
 ·left;rw[if_pos (.inl h5),if_pos h5];exact⟨rfl,.inl rfl⟩
 ·by_cases h6:k % 7=6
  ·left;rw[if_pos (.inr h6),if_neg h5,if_pos h6];exact⟨rfl,.inr rfl⟩
  ·right
   rw[if_neg (by rintro(h|h)<;>contradiction),if_neg h5,if_neg h6];exact⟨by omega,rfl⟩
theorem MP (k:Int):aJ (rP k) (zK k)=true:=by
 rcases MO k with ⟨h1,h2|h2⟩|⟨h1|h1|h1|h1|h1,h2⟩<;>rw[h1,h2]<;>decide
theorem Y9 {kk:Int}{ps:List Int}(h:aJ kk ps=true):Ca E1 27 [.d (bA kk ps)] (.d (bS kk ((dz kk ps).map oq)).d,none)/\Ca E1 20 [.d (bA kk ps)] (.d (bS kk ((dz kk ps).map oq)).d,none):=by
 rw[acO h];exact Y3 h
theorem Fu {kk:Int}{ps:List Int}(h:aJ kk ps=true):Ca E1 26 [.d (bA kk ps)] (.d (bS kk ((dz kk ps).map dF)).d,none):=by
 have h1:=U9 h;have e:JC kk ps=bS kk ((dz kk ps).map dF):=by
  unfold JC bS dz
  by_cases h6:kk=6
  ·simp only[if_pos h6,Q42];rfl
  ·simp only[if_neg h6];rfl
 rw[e]at h1;exact h1
noncomputable def rR (kk:Int) (ps:List Int) (v:Int):List Sv:=if kk=6 then(List.range ps.length).map fun i=>Cn (ps.getD i 0) (ah .i64 (v+i)) else [Cn kk v]
theorem zO {k:Int}(hk:single k=true)(v:Int)(hv:d_ v):Ca E1 16 [.d (bA k []),.d (.v (.int .i64 v))] (.d (Cn k v).w.d,none):=by
 unfold Cn;rcases aO hk with rfl|rfl|rfl|rfl|rfl
 ·exact afy v hv
 ·exact afz v hv
 ·exact acI v hv
 ·exact afA v hv
 ·exact afB v hv
theorem Vl (z:Int):d_ (ah .i64 z):=by
 have h:=Go.wf_wrap .i64 z;rw[cK];exact wf_i64 h
theorem Fv {kk:Int}{ps:List Int}(h:aJ kk ps=true)(v:Int):gU 9 2 (dz kk ps) (rR kk ps v):=by
 have hs:=aQ h;unfold rR dz at*
 by_cases h6:kk=6
 ·simp only[if_pos h6]at*;refine⟨by simp,fun i k x hk hx => ?_⟩;have hi:i<ps.length:=(bD hk)
  rw[Qb1,Xh0 hi]at hx;simp only[Q20,Qe0]at hx;subst hx;have hg:ps.getD i 0=k:=by rw[Qh1,hk];rfl
  rw[hg];exact Oz (hs k (Qa2 hk)) _
 ·simp only[if_neg h6]at*;refine⟨rfl,fun i k x hk hx => ?_⟩
  match i with
  | 0 =>
   cases hk;cases hx;exact Oz (hs kk (by simp)) v
  | i+1=>cases hk
theorem JM {kk:Int}{ps:List Int}(h:aJ kk ps=true)(v:Int)(hv:d_ v):Ca E1 16 [.d (bA kk ps),.d (.v (.int .i64 v))] (.d (bS kk (rR kk ps v)).d,none):=by
 have hs:=aQ h;unfold rR bS dz at*
 by_cases h6:kk=6
 ·subst h6;simp only[if_true]at*;refine Vd v ps _ (rg6 h).1 (by simp) (fun i k z hk hz => ?_);have hi:i<ps.length:=(bD hk)
  rw[Qb1,Qb1,Xh0 hi]at hz;simp only[Q20,Qe0]at hz;subst hz;have hg:ps.getD i 0=k:=by rw[Qh1,hk];rfl
  rw[hg];exact zO (hs k (Qa2 hk)) _ (Vl _)
 ·simp only[if_neg h6]at*;obtain⟨rfl,hk⟩:=ui h h6;exact zO hk v hv
end Fi.S
namespace Fi.S
open Go Fi
set_option maxHeartbeats 8000000
set_option maxRecDepth 10000
theorem QG {k:Int}{S M:Nat}(hS:S<=1000){x:Sv}(h:x.of k S M):∃ s l1 l2 c b u p,x.w.d=wD s l1 l2 c b u p [] /\
  Ca E1 85 [.d (.a [.v (.bool s),.s 1 l1,.s 1 l2])] (.d (.a [.v (.bool s),.s 1 l1,.s 1 l2]),none)/\Ca E1 86 [.d (.s 6 p)] (.d (.s 6 p),none):=by
 have t0:=Ca.fP (iG 0 (by have:=jJ;omega));rw[wP]at t0;obtain⟨_,p0,rfl⟩:=pG (PV.nil S) hS;cases x with
 | q x =>
  have:=h.2;exact⟨_,_,_,_,_,_,_,rfl,Ca.fP (iG x omK),p0⟩
 | c i n=>exact⟨_,_,_,_,_,_,_,rfl,t0,p0⟩
 | s u=>exact⟨_,_,_,_,_,_,_,rfl,t0,p0⟩
 | p l =>
  obtain⟨_,t1,rfl⟩:=pG h.2.1 hS;exact⟨_,_,_,_,_,_,_,UQ l,t0,t1⟩
theorem dL (kk:Int)(ps:List Int)(i:Nat)(j:Int)(hj:j=i)(a:Int)(h:ps[i]?=some a):Ca E1 56 [.d (bA kk ps),.d (.v (.int .i64 j))] (.d (bA a []),none):=by
 subst hj;have e1:(LK .i64 ps)[i]?=some (.v (.int .i64 a)):=by simp[LK,h]
 have hl:i<(LK .i64 ps).length:=(bD e1)
 have h0:(0:Int)<=(i:Int):=by omega
 refine Ca.bO (n:=60) ?_;rw[av rfl (k56:E1.fn _=_) rfl];have e2:=idx e1;have e0:LK .i64 []=[]:=rfl;unfold bA;rw[e0];generalize LK .i64 ps=l1 at*;simp -implicitDefEqProofs[f56,e1,e2,hl,h0]
theorem MQ:ah .i64 1=1:=wrap_i64 omK
theorem wr2:ah .i64 2=2:=wrap_i64 omK
theorem wr3:ah .i64 3=3:=wrap_i64 omK
theorem dW {k:Int}(hk:single k=true):aJ k []=true/\k≠6:=by
 have h6:k≠6:=by
  rintro rfl;exact absurd hk (by decide)
 exact⟨by unfold aJ;rw[if_pos h6,hk];rfl,h6⟩
theorem ou {kk:Int}{ps:List Int}{S M:Nat}{xs:List Sv}(hv:aJ kk ps=true)(h:gU S M (dz kk ps) xs) :
  (single kk=true/\ps=[]/\∃ x,xs=[x]/\x.of kk S M) \/
  (kk=6/\∃ a b x y,ps=[a,b]/\xs=[x,y]/\single a=true/\single b=true/\x.of a S M/\y.of b S M) \/
  (kk=6/\∃ a b c x y z,ps=[a,b,c]/\xs=[x,y,z]/\single a=true/\single b=true/\single c=true/\x.of a S M/\y.of b S M/\z.of c S M):=by
 have hs:=aQ hv
 by_cases h6:kk=6
 ·subst h6;obtain⟨l3,l2,_⟩:=rg6 hv;unfold dz at*;rw[if_pos rfl]at h hs;have hl:=h.1
  match ps,xs,l3,l2,hl with
  | [a,b],[x,y],_,_,_=>exact .inr (.inl ⟨rfl,a,b,x,y,rfl,rfl,hs a (by simp),hs b (by simp),h.2 0 a x rfl rfl,h.2 1 b y rfl rfl⟩)
  | [a,b,c],[x,y,z],_,_,_=>exact .inr (.inr ⟨rfl,a,b,c,x,y,z,rfl,rfl,hs a (by simp),hs b (by simp),hs c (by simp),h.2 0 a x rfl rfl,h.2 1 b y rfl rfl,h.2 2 c z rfl rfl⟩)
 ·obtain⟨rfl,hk⟩:=ui hv h6;unfold dz at h;rw[if_neg h6]at h;obtain⟨x,rfl,hx⟩:=rQ h;exact .inl ⟨hk,rfl,x,rfl,hx⟩
theorem mk_one {k:Int}(hk:single k=true)(x:Sv):bS k [x]=x.w:=if_neg (dW hk).2
theorem Y_ {k:Int}(hk:single k=true){S M:Nat}{x:Sv}(h:x.of k S M):gU S M (dz k []) [x]:=by
 unfold dz;rw[if_neg (dW hk).2];exact⟨rfl,fun i k' x' h1 h2=>by
  match i with
  | 0=>cases h1;cases h2;exact h
  | i+1=>cases h1⟩
theorem nR {k:Int}(hk:single k=true){S M:Nat}(hS1:1<=S)(hS:S<=1000){x:Sv}(h:x.of k S M):Ca E1 53 [.d (bA k []),.d x.w.d] (.d x.w.d,none):=by
 have hc:=Ca.fP (tZ k [] x.w (by simp) (U6 h hS));have hm:=CJ (dW hk).1 (Y_ hk h);rw[mk_one hk]at hm;rw[hm]at hc;obtain⟨s,l1,l2,c,b,u,p,e,t1,t2⟩:=QG hS h;rw[e]at hc ⊢;obtain⟨K,hK,a0,a1,a2⟩:=(hc.j (t1.j t2.any)).at 0;clear hc t1 t2 e h hm hK;refine Ca.bO (n:=K+200) ?_;rw[av rfl (k53:E1.fn _=_) rfl];unfold wD bA at*;generalize LK .i64 []=l0 at*;simp -implicitDefEqProofs[aC,f53,a0,a1,a2]
theorem ku (xs:List Sv):(fQ (xs.map Sv.w)).d=wD false [] [] 0 false 0 [] (xs.map fun x=>x.w.d):=by
 show D.a [.v (.bool false),.s 1 [],.s 1 [],.v (.int .i64 0),.v (.bool false),.v (.int .u64 0),.s 6 [],.s 8 (W.ds (xs.map Sv.w))]=_;rw[W.gX,Q42];rfl
theorem CK {ps:List Int}{S M:Nat}{xs:List Sv}(hv:aJ 6 ps=true)(hS1:1<=S)(hS:S<=1000)(h:gU S M ps xs) :
  Ca E1 29 [.d (bA 6 ps),.d (wD false [] [] 0 false 0 [] (xs.map fun x=>x.w.d))] (.d (.v (.bool true)),none)/\Ca E1 85 [.d (.a [.v (.bool false),.s 1 [],.s 1 []])] (.d (.a [.v (.bool false),.s 1 [],.s 1 []]),none)/\Ca E1 86 [.d (.s 6 [])] (.d (.s 6 []),none):=by
 have hc:=Ca.fP (tZ 6 ps (fQ (xs.map Sv.w)) (vH hv) (OB hS (rg6 hv).1 h));rw[Cr hv h,ku]at hc;have t0:=Ca.fP (iG 0 (by have:=jJ;omega));rw[wP]at t0;obtain⟨_,p0,rfl⟩:=pG (PV.nil S) hS;exact⟨hc,t0,p0⟩
theorem xe {kk:Int}{ps:List Int}{S M:Nat}{xs:List Sv}(hv:aJ kk ps=true)(hS1:1<=S)(hS:S<=1000)(h:gU S M (dz kk ps) xs):Ca E1 53 [.d (bA kk ps),.d (bS kk xs).d] (.d (bS kk xs).d,none):=by
 rcases ou hv h with ⟨hk,rfl,x,rfl,hx⟩|⟨rfl,a,b,x,y,rfl,rfl,ha,hb,hx,hy⟩|⟨rfl,a,b,c,x,y,z,rfl,rfl,ha,hb,hc,hx,hy,hz⟩
 ·rw[mk_one hk];exact nR hk hS1 hS hx
 ·obtain⟨f1,f2,f3⟩:=CK hv hS1 hS h;obtain⟨K,hK,a0,a1,a2,b0,b1,p0,p1⟩:=((f1).j ((f2).j ((f3).j ((nR ha hS1 hS hx).j ((nR hb hS1 hS hy).j ((dL 6 [a,b] 0 0 rfl a rfl).j ((dL 6 [a,b] 1 1 rfl b rfl).any))))))).at 0;have e0:∀ l,bS 6 l=fQ (l.map Sv.w):=fun _=>rfl
  rw[e0,ku];simp only[Qd2,Qc0]at*;obtain⟨xs,x1,x2,xc,xb,xu,xp,xq,ex⟩:=x.w.aN;obtain⟨ys,y1,y2,yc,yb,yu,yp,yq,ey⟩:=y.w.aN;simp only[ex,ey]at*;clear hK f1 f2 f3 e0 h hv hx hy ex ey;refine Ca.bO (n:=K+500) ?_;rw[av rfl (k53:E1.fn _=_) rfl];unfold wD bA at*;generalize LK .i64 []=l0 at*;simp only[show LK .i64 [a,b]=[.v (.int .i64 a),.v (.int .i64 b)] from rfl]at*;simp (maxSteps:=500000) -implicitDefEqProofs[aC,f53,a0,a1,a2,b0,b1,p0,p1,most,MQ,wr2,wr3,ae.view]
 ·obtain⟨f1,f2,f3⟩:=CK hv hS1 hS h;obtain⟨K,hK,a0,a1,a2,b0,b1,b2,p0,p1,p2⟩:=((f1).j ((f2).j ((f3).j ((nR ha hS1 hS hx).j ((nR hb hS1 hS hy).j ((nR hc hS1 hS hz).j ((dL 6 [a,b,c] 0 0 rfl a rfl).j ((dL 6 [a,b,c] 1 1 rfl b rfl).j ((dL 6 [a,b,c] 2 2 rfl c rfl).any))))))))).at 0;have e0:∀ l,bS 6 l=fQ (l.map Sv.w):=fun _=>rfl
  rw[e0,ku];simp only[Qd2,Qc0]at*;obtain⟨xs,x1,x2,xc,xb,xu,xp,xq,ex⟩:=x.w.aN;obtain⟨ys,y1,y2,yc,yb,yu,yp,yq,ey⟩:=y.w.aN;obtain⟨zs,z1,z2,zc,zb,zu,zp,zq,ez⟩:=z.w.aN;simp only[ex,ey,ez]at*;clear hK f1 f2 f3 e0 h hv hx hy hz ex ey ez;refine Ca.bO (n:=K+500) ?_;rw[av rfl (k53:E1.fn _=_) rfl];unfold wD bA at*;generalize LK .i64 []=l0 at*;simp only[show LK .i64 [a,b,c]=[.v (.int .i64 a),.v (.int .i64 b),.v (.int .i64 c)] from rfl]at*;simp (maxSteps:=500000) -implicitDefEqProofs[aC,f53,a0,a1,a2,b0,b1,b2,p0,p1,p2,most,MQ,wr2,wr3,ae.view]
theorem R7 (x:Rat):∃ s n d,(Sv.q x).w.d=wD s n d 0 false 0 [] []/\qD x=.a [.v (.bool s),.s 1 n,.s 1 d]:=⟨_,_,_,rfl,rfl⟩
theorem OE {k:Int}(hk:single k=true){S M:Nat}(hS1:1<=S)(hS:S<=1000){x y:Sv}(hx:x.of k S M)(hy:y.of k S M){vw ww:W}(tx:Ca E1 53 [.d (bA k []),.d vw.d] (.d x.w.d,none))(ty:Ca E1 53 [.d (bA k []),.d ww.d] (.d y.w.d,none)) :
  Ca E1 19 [.d (bA k []),.d vw.d,.d ww.d] (.d (dB k x y).w.d,none):=by
 have tv:=Ca.fP (Ca.bO (fO 0 k []));rw[(dW hk).1]at tv;obtain⟨vs,vl1,vl2,vc,vb,vu,vp,vps,ev⟩:=vw.aN;obtain⟨ws,wl1,wl2,wc,wb,wu,wp,wps,ew⟩:=ww.aN;rw[ev]at tx ⊢;rw[ew]at ty ⊢;clear ev ew;rcases aO hk with rfl|rfl|rfl|rfl|rfl
 ·obtain⟨a,rfl,ha⟩:=wX hx;obtain⟨b,rfl,hb⟩:=wX hy;obtain⟨K,hK,a0,a1,a2,a3⟩:=((tv).j ((tx).j ((ty).j ((Ca.fP (AJ a b omK omK)).any)))).at 0;obtain⟨s1,n1,d1,e1,g1⟩:=R7 a;obtain⟨s2,n2,d2,e2,g2⟩:=R7 b;rw[pl1];obtain⟨s3,n3,d3,e3,g3⟩:=R7 (a+b);rw[g1,g2,g3]at a3;rw[e1]at a1;rw[e2]at a2;rw[e3];clear hK tv tx ty;refine Ca.bO (n:=K+300) ?_;rw[av rfl (k19:E1.fn _=_) rfl]
  (try unfold wD at*)
  unfold bA at*;generalize LK .i64 []=l0 at*;simp -implicitDefEqProofs[aC,f19,a0,a1,a2,a3]
 ·obtain⟨i,n,rfl,hn0,hn1,hin⟩:=wY hx;obtain⟨j,m,rfl,hm0,hm1,hjm⟩:=wY hy;obtain⟨K,hK,a0,a1,a2⟩:=((tv).j ((tx).j ((ty).any))).at 0;rw[Y7];have hc1:∀ n,(Sv.c i n).w.d=wD false [] [] n i 0 [] []:=fun n=>rfl
  have hc2:∀ n,(Sv.c j n).w.d=wD false [] [] n j 0 [] []:=fun n=>rfl
  unfold nA;rw[hc1]at a1;rw[hc2]at a2
  by_cases h:m<n<;>cases i<;>cases j<;>(try obtain rfl:=hin rfl)<;>(try obtain rfl:=hjm rfl)<;>(try exact absurd h omK)<;>simp only[h,Xi2,Bool.not_false,Q41,Qs0,X40,Bool.or_true,Bool.true_or,Xc1,decide_true,decide_false,if_true,if_false,Qi0,hc1,hc2] <;>
  (clear hK tv tx ty;refine Ca.bO (n:=K+300) ?_;rw[av rfl (k19:E1.fn _=_) rfl];(try rw[hc1]);(try rw[hc2]);unfold wD bA at*;generalize LK .i64 []=l0 at*;simp -implicitDefEqProofs[f19,a0,a1,a2,h])
 ·obtain⟨a,rfl,_,_,ha⟩:=wZ hx;obtain⟨b,rfl,_,_,hb⟩:=wZ hy;obtain⟨K,hK,a0,a1,a2,a3⟩:=((tv).j ((tx).j ((ty).j ((Ca.fP (I_ a b omK omK)).any)))).at 0;obtain⟨s1,n1,d1,e1,g1⟩:=R7 a;obtain⟨s2,n2,d2,e2,g2⟩:=R7 b;have ep:=pl3 a b
  by_cases hab:a<b
  ·rw[ep,if_pos hab];rw[decide_eq_true hab,g1,g2]at a3;simp only[e1,e2]at a1 a2 ⊢;clear hK tv tx ty;refine Ca.bO (n:=K+300) ?_;rw[av rfl (k19:E1.fn _=_) rfl]
   (try unfold wD at*)
   unfold bA at*;generalize LK .i64 []=l0 at*;simp -implicitDefEqProofs[aC,f19,a0,a1,a2,a3]
  ·rw[ep,if_neg hab];rw[decide_eq_false hab,g1,g2]at a3;simp only[e1,e2]at a1 a2 ⊢;clear hK tv tx ty;refine Ca.bO (n:=K+300) ?_;rw[av rfl (k19:E1.fn _=_) rfl]
   (try unfold wD at*)
   unfold bA at*;generalize LK .i64 []=l0 at*;simp -implicitDefEqProofs[aC,f19,a0,a1,a2,a3]
 ·obtain⟨u,rfl,hu⟩:=w9 hx;obtain⟨v,rfl,hv⟩:=w9 hy;obtain⟨K,hK,a0,a1,a2⟩:=((tv).j ((tx).j ((ty).any))).at 0;rw[pl4];have hc1:∀ u,(Sv.s u).w.d=wD false [] [] 0 false u [] []:=fun u=>rfl
  rw[hc1]at a1;rw[hc1]at a2;rw[hc1];clear hK tv tx ty;refine Ca.bO (n:=K+300) ?_;rw[av rfl (k19:E1.fn _=_) rfl]
  (try unfold wD at*)
  unfold bA at*;generalize LK .i64 []=l0 at*;simp -implicitDefEqProofs[aC,f19,a0,a1,a2]
 ·obtain⟨a,rfl,ha,la⟩:=w_ hx;obtain⟨b,rfl,hb,lb⟩:=w_ hy;obtain⟨K,hK,a0,a1,a2,a3⟩:=((tv).j ((tx).j ((ty).j ((Js hS1 hS ha hb).any)))).at 0;rw[pl5];simp only[UQ]at a1 a2 ⊢;generalize gu a b=c at*;unfold aT at*;generalize (a.map fun p=>qC p.1 p.2)=x1,(b.map fun p=>qC p.1 p.2)=x2,(c.map fun p=>qC p.1 p.2)=x3 at*;clear hK tv tx ty;refine Ca.bO (n:=K+300) ?_;rw[av rfl (k19:E1.fn _=_) rfl]
  (try unfold wD at*)
  unfold bA at*;generalize LK .i64 []=l0 at*;simp -implicitDefEqProofs[aC,f19,a0,a1,a2,a3]
theorem xg {k:Int}(hk:single k=true){S M:Nat}(hS1:1<=S)(hS:S<=1000){x y:Sv}(hx:x.of k S M)(hy:y.of k S M) :
  Ca E1 19 [.d (bA k []),.d x.w.d,.d y.w.d] (.d (dB k x y).w.d,none):=OE hk hS1 hS hx hy (nR hk hS1 hS hx) (nR hk hS1 hS hy)
theorem Vm {kk:Int}{ps:List Int}{S M:Nat}{xs ys:List Sv}(hv:aJ kk ps=true)(hS1:1<=S)(hS:S<=1000)(hx:gU S M (dz kk ps) xs)(hy:gU S M (dz kk ps) ys){vw ww:W}(tx:Ca E1 53 [.d (bA kk ps),.d vw.d] (.d (bS kk xs).d,none))(ty:Ca E1 53 [.d (bA kk ps),.d ww.d] (.d (bS kk ys).d,none)) :
  Ca E1 19 [.d (bA kk ps),.d vw.d,.d ww.d] (.d (bS kk (bL (dz kk ps) xs ys)).d,none):=by
 have tv:=Ca.fP (Ca.bO (fO 0 kk ps));rw[hv]at tv;rcases ou hv hx with ⟨hk,rfl,x,rfl,h1⟩|⟨rfl,a,b,x1,x2,rfl,rfl,ha,hb,h1,h2⟩|⟨rfl,a,b,c,x1,x2,x3,rfl,rfl,ha,hb,hc,h1,h2,h3⟩
 ·have h6:=(dW hk).2;rcases ou hv hy with ⟨_,_,y,rfl,g1⟩|⟨h,_⟩|⟨h,_⟩
  ·unfold dz;rw[if_neg h6];rw[mk_one hk]at tx ty;show Ca E1 19 _ (.d (bS kk [dB kk x y]).d,none);rw[mk_one hk];exact OE hk hS1 hS h1 g1 tx ty
  ·exact absurd h h6
  ·exact absurd h h6
 ·obtain⟨y1,y2,rfl,g1,g2⟩:∃ y1 y2,ys=[y1,y2]/\y1.of a S M/\y2.of b S M:=by
   have hl:=hy.1
   match ys,hl with
   | [y1,y2],_=>exact⟨y1,y2,rfl,hy.2 0 _ _ rfl rfl,hy.2 1 _ _ rfl rfl⟩
  obtain⟨K,hK,a0,a1,a2,b0,b1,p0,p1⟩:=((tv).j ((tx).j ((ty).j ((xg ha hS1 hS h1 g1).j ((xg hb hS1 hS h2 g2).j ((dL 6 [a,b] 0 0 rfl a rfl).j ((dL 6 [a,b] 1 1 rfl b rfl).any))))))).at 0;have e0:∀ l,bS 6 l=fQ (l.map Sv.w):=fun _=>rfl
  have e1:bL (dz 6 [a,b]) [x1,x2] [y1,y2]=[dB a x1 y1,dB b x2 y2]:=rfl;rw[e1,e0,ku];rw[e0,ku]at a1 a2;obtain⟨vs,vl1,vl2,vc,vb,vu,vp,vps,ev⟩:=vw.aN;obtain⟨ws,wl1,wl2,wc,wb,wu,wp,wps,ew⟩:=ww.aN;rw[ev]at a1 ⊢;rw[ew]at a2 ⊢;clear tx ty ev ew;simp only[Qd2,Qc0]at*;generalize dB a x1 y1=z1,dB b x2 y2=z2 at*;obtain⟨xs1,xm1,xn1,xc1,xb1,xu1,xp1,xq1,Vn⟩:=x1.w.aN;obtain⟨xs2,xm2,xn2,xc2,xb2,xu2,xp2,xq2,JN⟩:=x2.w.aN;obtain⟨ys1,ym1,yn1,yc1,yb1,yu1,yp1,yq1,Vo⟩:=y1.w.aN;obtain⟨ys2,ym2,yn2,yc2,yb2,yu2,yp2,yq2,Vp⟩:=y2.w.aN;obtain⟨U0,zm1,zn1,zc1,zb1,zu1,zp1,zq1,Vq⟩:=z1.w.aN;obtain⟨zs2,zm2,zn2,zc2,zb2,zu2,zp2,zq2,OG⟩:=z2.w.aN;simp only[Vn,JN,Vo,Vp,Vq,OG]at*;clear hK tv e0 e1 hx hy hv h1 g1 h2 g2 Vn JN Vo Vp Vq OG;refine Ca.bO (n:=K+500) ?_;rw[av rfl (k19:E1.fn _=_) rfl];unfold wD bA at*;generalize LK .i64 []=l0 at*;simp only[show LK .i64 [a,b]=[.v (.int .i64 a),.v (.int .i64 b)] from rfl]at*;simp (maxSteps:=500000) -implicitDefEqProofs[aC,f19,a0,a1,a2,b0,b1,p0,p1,most,MQ,wr2,wr3,ae.view]
 ·obtain⟨y1,y2,y3,rfl,g1,g2,g3⟩:∃ y1 y2 y3,ys=[y1,y2,y3]/\y1.of a S M/\y2.of b S M/\y3.of c S M:=by
   have hl:=hy.1
   match ys,hl with
   | [y1,y2,y3],_=>exact⟨y1,y2,y3,rfl,hy.2 0 _ _ rfl rfl,hy.2 1 _ _ rfl rfl,hy.2 2 _ _ rfl rfl⟩
  obtain⟨K,hK,a0,a1,a2,b0,b1,b2,p0,p1,p2⟩:=((tv).j ((tx).j ((ty).j ((xg ha hS1 hS h1 g1).j ((xg hb hS1 hS h2 g2).j ((xg hc hS1 hS h3 g3).j ((dL 6 [a,b,c] 0 0 rfl a rfl).j ((dL 6 [a,b,c] 1 1 rfl b rfl).j ((dL 6 [a,b,c] 2 2 rfl c rfl).any))))))))).at 0;have e0:∀ l,bS 6 l=fQ (l.map Sv.w):=fun _=>rfl
  have e1:bL (dz 6 [a,b,c]) [x1,x2,x3] [y1,y2,y3]=[dB a x1 y1,dB b x2 y2,dB c x3 y3]:=rfl;rw[e1,e0,ku];rw[e0,ku]at a1 a2;obtain⟨vs,vl1,vl2,vc,vb,vu,vp,vps,ev⟩:=vw.aN;obtain⟨ws,wl1,wl2,wc,wb,wu,wp,wps,ew⟩:=ww.aN;rw[ev]at a1 ⊢;rw[ew]at a2 ⊢;clear tx ty ev ew;simp only[Qd2,Qc0]at*;generalize dB a x1 y1=z1,dB b x2 y2=z2,dB c x3 y3=z3 at*;obtain⟨xs1,xm1,xn1,xc1,xb1,xu1,xp1,xq1,Vn⟩:=x1.w.aN;obtain⟨xs2,xm2,xn2,xc2,xb2,xu2,xp2,xq2,JN⟩:=x2.w.aN;obtain⟨xs3,xm3,xn3,xc3,xb3,xu3,xp3,xq3,ex3⟩:=x3.w.aN;obtain⟨ys1,ym1,yn1,yc1,yb1,yu1,yp1,yq1,Vo⟩:=y1.w.aN;obtain⟨ys2,ym2,yn2,yc2,yb2,yu2,yp2,yq2,Vp⟩:=y2.w.aN;obtain⟨ys3,ym3,yn3,yc3,yb3,yu3,yp3,yq3,ey3⟩:=y3.w.aN;obtain⟨U0,zm1,zn1,zc1,zb1,zu1,zp1,zq1,Vq⟩:=z1.w.aN;obtain⟨zs2,zm2,zn2,zc2,zb2,zu2,zp2,zq2,OG⟩:=z2.w.aN;obtain⟨zs3,zm3,zn3,zc3,zb3,zu3,zp3,zq3,ez3⟩:=z3.w.aN;simp only[Vn,JN,ex3,Vo,Vp,ey3,Vq,OG,ez3]at*;clear hK tv e0 e1 hx hy hv h1 g1 h2 g2 h3 g3 Vn JN ex3 Vo Vp ey3 Vq OG ez3;refine Ca.bO (n:=K+500) ?_;rw[av rfl (k19:E1.fn _=_) rfl];unfold wD bA at*;generalize LK .i64 []=l0 at*;simp only[show LK .i64 [a,b,c]=[.v (.int .i64 a),.v (.int .i64 b),.v (.int .i64 c)] from rfl]at*;simp (maxSteps:=500000) -implicitDefEqProofs[aC,f19,a0,a1,a2,b0,b1,b2,p0,p1,p2,most,MQ,wr2,wr3,ae.view]
theorem JO {kk:Int}{ps:List Int}{S M:Nat}{xs ys:List Sv}(hv:aJ kk ps=true)(hS1:1<=S)(hS:S<=1000)(hx:gU S M (dz kk ps) xs)(hy:gU S M (dz kk ps) ys) :
  Ca E1 19 [.d (bA kk ps),.d (bS kk xs).d,.d (bS kk ys).d] (.d (bS kk (bL (dz kk ps) xs ys)).d,none):=Vm hv hS1 hS hx hy (xe hv hS1 hS hx) (xe hv hS1 hS hy)
theorem uj {k:Int}(hk:single k=true):Ca E1 35 [.d (bA k [])] (.d (dF k).w.d,none):=by
 have tv:=Ca.fP (Ca.bO (fO 0 k []));rw[(dW hk).1]at tv;have e2:∀ b,W.d (.mk false [] [] 0 b 0 [] [])=wD false [] [] 0 b 0 [] []:=fun _=>rfl
 have eq0:(Sv.q 0).w.d=wD false [] [] 0 false 0 [] []:=by
  have h:=wP;obtain⟨s,n,d,e1,g1⟩:=R7 0;rw[e1];rw[g1]at h;simp only[D.a.injEq,Xs1,D.v.injEq,Value.bool.injEq,D.s.injEq,true_and,and_true]at h;obtain⟨rfl,rfl,rfl⟩:=h;rfl
 have e:(dF k).w.d=wD false [] [] 0 (k==2) 0 [] []:=by
  rcases aO hk with rfl|rfl|rfl|rfl|rfl
  ·exact eq0
  ·exact e2 _
  ·exact eq0
  ·exact e2 _
  ·exact e2 _
 rw[e];obtain⟨m0,a0⟩:=(tv).any;clear e e2 eq0 tv;refine Ca.bO (n:=m0+300) ?_;replace a0:=a0 m0 omK;rw[av rfl (k35:E1.fn _=_) rfl];unfold wD bA at*;simp only[show LK .i64 []=[] from rfl]at*;rcases aO hk with rfl|rfl|rfl|rfl|rfl<;>simp -implicitDefEqProofs[aC,f35,a0]
theorem AX {kk:Int}{ps:List Int}(hv:aJ kk ps=true):Ca E1 35 [.d (bA kk ps)] (.d (bS kk ((dz kk ps).map dF)).d,none):=by
 have h:gU 1 1 (dz kk ps) ((dz kk ps).map dF):=kr omK (aQ hv);have tv:=Ca.fP (Ca.bO (fO 0 kk ps));rw[hv]at tv;have e0:∀ l,bS 6 l=fQ (l.map Sv.w):=fun _=>rfl
 rcases ou hv h with ⟨hk,rfl,x,hxs,hx⟩|⟨rfl,a,b,x,y,rfl,hxs,ha,hb,hx,hy⟩|⟨rfl,a,b,c,x,y,z,rfl,hxs,ha,hb,hc,hx,hy,hz⟩
 ·rw[show dz kk []=[kk] from if_neg (dW hk).2,Qd2,Qc0,mk_one hk];exact uj hk
 ·clear h hxs;rw[show dz 6 [a,b]=[a,b] from rfl,e0,ku];simp only[Qd2,Qc0];obtain⟨K,hK,a0,b0,p0,b1,p1⟩:=(tv.j ((uj ha).j ((dL 6 [a,b] 0 0 rfl a rfl).j ((uj hb).j ((dL 6 [a,b] 1 1 rfl b rfl).any))))).at 0;obtain⟨s0,l0,r0,c0,i0,u0,o0,g0,e0x⟩:=(dF a).w.aN;obtain⟨s1,l1,r1,c1,i1,u1,o1,g1,e1x⟩:=(dF b).w.aN;simp only[e0x,e1x]at*;clear hK tv e0 hv hx hy e0x e1x;refine Ca.bO (n:=K+500) ?_;rw[av rfl (k35:E1.fn _=_) rfl];unfold wD bA at*;generalize LK .i64 []=l0 at*;simp only[show LK .i64 [a,b]=[.v (.int .i64 a),.v (.int .i64 b)] from rfl]at*;simp (maxSteps:=500000) -implicitDefEqProofs[aC,f35,a0,b0,p0,b1,p1,most,MQ,wr2,wr3,ae.view]
 ·clear h hxs;rw[show dz 6 [a,b,c]=[a,b,c] from rfl,e0,ku];simp only[Qd2,Qc0];obtain⟨K,hK,a0,b0,p0,b1,p1,b2,p2⟩:=(tv.j ((uj ha).j ((dL 6 [a,b,c] 0 0 rfl a rfl).j ((uj hb).j ((dL 6 [a,b,c] 1 1 rfl b rfl).j ((uj hc).j ((dL 6 [a,b,c] 2 2 rfl c rfl).any))))))).at 0;obtain⟨s0,l0,r0,c0,i0,u0,o0,g0,e0x⟩:=(dF a).w.aN;obtain⟨s1,l1,r1,c1,i1,u1,o1,g1,e1x⟩:=(dF b).w.aN;obtain⟨s2,l2,r2,c2,i2,u2,o2,g2,e2x⟩:=(dF c).w.aN;simp only[e0x,e1x,e2x]at*;clear hK tv e0 hv hx hy hz e0x e1x e2x;refine Ca.bO (n:=K+500) ?_;rw[av rfl (k35:E1.fn _=_) rfl];unfold wD bA at*;generalize LK .i64 []=l0 at*;simp only[show LK .i64 [a,b,c]=[.v (.int .i64 a),.v (.int .i64 b),.v (.int .i64 c)] from rfl]at*;simp (maxSteps:=500000) -implicitDefEqProofs[aC,f35,a0,b0,p0,b1,p1,b2,p2,most,MQ,wr2,wr3,ae.view]
end Fi.S
