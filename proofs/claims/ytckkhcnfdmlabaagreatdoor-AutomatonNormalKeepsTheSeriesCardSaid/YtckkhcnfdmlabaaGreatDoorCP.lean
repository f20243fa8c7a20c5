import Derived.Test.YtckkhcnfdmlabaaGreatDoorCO
set_option linter.unusedVariables false
set_option linter.unusedSimpArgs false
noncomputable section
namespace Fi.S
open Go Fi
set_option maxHeartbeats 1000000
theorem Pk (a b:fE):f_ a b=f_ b a:=by simp[f_,Int.add_comm]
theorem Lh (a b c:fE):f_ (f_ a b) c=f_ a (f_ b c):=by simp[f_,Int.add_assoc]
theorem Pm {S:Nat}(hS:1<=S){a b:List aW}(ha:PV S a)(hb:PV S b):fQ a b=fQ b a :=
 PV.ext (gp hS hS ha hb) (gp hS hS hb ha) (fun e=>by rw[jB,jB];grind)
theorem Li {S:Nat}(hS:1<=S){a b c:List aW}(ha:PV S a)(hb:PV S b)(hc:PV S c):fQ (fQ a b) c=fQ a (fQ b c) :=
 PV.ext (gp (by omega) hS (gp hS hS ha hb) hc) (gp hS (by omega) ha (gp hS hS hb hc)) (fun e=>by simp only[jB];grind)
theorem T9 {S:Nat}(hS:1<=S){a:List aW}(ha:PV S a):fQ a []=a :=
 PV.ext (gp hS hS ha (PV.nil S)) ha (fun e=>by rw[jB];simp only[tot];grind)
def cv (a:List aW)(f:fE->Rat)(e:fE):Rat:=match a with
 | []=>0
 | p::r=>p.2*f (e.1-p.1.1,e.2.1-p.1.2.1,e.2.2-p.1.2.2)+cv r f e
def BD (e a:fE):fE:=(e.1-a.1,e.2.1-a.2.1,e.2.2-a.2.2)
theorem Nl (a b e:fE):f_ a b=e↔b=BD e a:=by
 obtain⟨a1,a2,a3⟩:=a;obtain⟨b1,b2,b3⟩:=b;obtain⟨e1,e2,e3⟩:=e;simp only[f_,BD,Prod.mk.injEq];omega
theorem Ez (p:aW)(e:fE):∀ b:List aW,tot (bQ p b) e=p.2*tot b (BD e p.1)
 | []=>by simp only[bQ,List.map_nil,tot];grind
 | q::r=>by
  have ih:=Ez p e r;have h1:bQ p (q::r)=(f_ p.1 q.1,p.2*q.2)::bQ p r:=rfl;obtain⟨qe,y⟩:=q;rw[h1];simp only[tot,ih]
  by_cases h:f_ p.1 qe=e
  ·rw[if_pos h,if_pos ((Nl _ _ _).1 h)];grind
  ·rw[if_neg h,if_neg (fun h2=>h ((Nl _ _ _).2 h2))];grind
theorem gI (b:List aW)(e:fE):∀ a:List aW,tot (bB a b) e=cv a (tot b) e
 | []=>rfl
 | p::a=>by
  have h1:bB (p::a) b=bQ p b++bB a b:=by simp[bB]
  rw[h1,jb,gI b e a,Ez];rfl
theorem BF (l:List aW)(e:fE):tot (l.filter fun p=>bP p.1) e=if bP e=true then tot l e else 0:=by
 induction l with
 | nil=>simp[tot]
 | cons p r ih =>
  obtain⟨a,y⟩:=p
  by_cases h:bP a=true
  ·rw[List.filter_cons_of_pos (p:=fun p:aW=>bP p.1) h];simp only[tot,ih]
   by_cases h2:a=e
   ·subst h2;simp[h]
   ·simp only[if_neg h2];split<;>grind
  ·rw[List.filter_cons_of_neg (p:=fun p:aW=>bP p.1) h,ih];simp only[tot]
   by_cases h2:a=e
   ·subst h2;simp[h]
   ·simp only[if_neg h2];split<;>grind
theorem lK (a b:List aW)(e:fE):tot (iA a b) e=if bP e=true then cv a (tot b) e else 0:=by
 rw[vT,<-lJ,BF,gI]
theorem T_ (f g:fE->Rat)(e:fE):∀ a,cv a (fun x=>f x+g x) e=cv a f e+cv a g e
 | []=>by simp only[cv];grind
 | p::a=>by simp only[cv,T_ f g e a];grind
theorem kF (e:fE):∀ a b:List aW,tot (bB a b) e=tot (bB b a) e:=by
 have agp:∀ a:List aW,bB a []=[]:=fun a=>by
  induction a with
  | nil=>rfl
  | cons p r ih =>
   have h1:bB (p::r) []=bQ p []++bB r []:=by simp[bB]
   rw[h1,ih];rfl
 have ad8:∀ (q:aW) (b a:List aW),tot (bB a (q::b)) e=tot (bQ q a) e+tot (bB a b) e:=by
  intro q b a
  induction a with
  | nil=>simp only[bB,bQ,List.flatMap_nil,List.map_nil,tot];grind
  | cons p r ih =>
   have h1:bB (p::r) (q::b)=bQ p (q::b)++bB r (q::b):=by simp[bB]
   have h2:bB (p::r) b=bQ p b++bB r b:=by simp[bB]
   have h3:bQ p (q::b)=(f_ p.1 q.1,p.2*q.2)::bQ p b:=rfl;have h4:bQ q (p::r)=(f_ q.1 p.1,q.2*p.2)::bQ q r:=rfl;rw[h1,h2,jb,jb,h3,h4,ih];simp only[tot,Pk q.1 p.1];grind
 intro a
 induction a with
 | nil=>intro b;rw[agp];rfl
 | cons p r ih =>
  intro b;have h1:bB (p::r) b=bQ p b++bB r b:=by simp[bB]
  rw[h1,jb,ad8,ih]
theorem Pn {S:Nat}(hS:1<=S){a b:List aW}(ha:PV S a)(hb:PV S b):iA a b=iA b a :=
 PV.ext (gT hS ha hb) (gT hS hb ha) (fun e=>by
  rw[vT,vT,<-lJ,<-lJ,BF,BF,kF])
theorem Ua {S:Nat}(hS:1<=S){a b c:List aW}(ha:PV S a)(hb:PV S b)(hc:PV S c):iA a (fQ b c)=fQ (iA a b) (iA a c):=by
 have h1:=gp hS hS hb hc;refine PV.ext (gT hS ha h1) (gp (by omega) (by omega) (gT hS ha hb) (gT hS ha hc)) (fun e => ?_);rw[jB,lK,lK,lK];have h2:tot (fQ b c)=fun x=>tot b x+tot c x:=by funext x;exact jB b c x
 rw[h2,T_];split<;>grind
theorem yV (p:aW)(c:List aW):∀ b:List aW,bB (bQ p b) c=bQ p (bB b c)
 | []=>rfl
 | q::b=>by
  have h1:bQ p (q::b)=(f_ p.1 q.1,p.2*q.2)::bQ p b:=rfl;have h2:∀ (x:aW) (r:List aW),bB (x::r) c=bQ x c++bB r c:=fun x r=>by simp[bB]
  rw[h1,h2,h2,yV p c b];have h3:bQ p (bQ q c++bB b c)=bQ p (bQ q c)++bQ p (bB b c):=by simp[bQ]
  rw[h3]
  congr 1
  unfold bQ;rw[List.map_map];refine List.map_congr_left fun r _ => ?_
  simp only[Function.comp,Lh,Rat.mul_assoc]
theorem yX (b c:List aW):∀ a:List aW,bB (bB a b) c=bB a (bB b c)
 | []=>rfl
 | p::a=>by
  have h1:bB (p::a) b=bQ p b++bB a b:=by simp[bB]
  have h2:bB (p::a) (bB b c)=bQ p (bB b c)++bB a (bB b c):=by simp[bB]
  have h3:bB (bQ p b++bB a b) c=bB (bQ p b) c++bB (bB a b) c:=by simp[bB,List.flatMap_append]
  rw[h1,h2,h3,yV,yX b c a]
theorem BG {f g:fE->Rat}{e:fE}:∀ {a:List aW},(∀ p ∈ a,f (BD e p.1)=g (BD e p.1))->cv a f e=cv a g e
 | [],_=>rfl
 | p::a,h=>by
  have h1:=h p (List.mem_cons_self ..);have h2:=BG (a:=a) (fun q hq=>h q (List.mem_cons_of_mem _ hq));show p.2*f (BD e p.1)+cv a f e=p.2*g (BD e p.1)+cv a g e;rw[h1,h2]
theorem EB {a b:List aW}(ha:Fits a)(hb:Fits b){c e:fE}(hc:bP c=true)(he:bP e=true):tot (iA a b) (BD e c)=tot (bB a b) (BD e c):=by
 rw[lK,gI];split
 ·rfl
 ·rename_i hf;rw[<-gI];symm;refine kE fun x hx hxe => ?_
  obtain⟨p,hp,hx⟩:=List.mem_flatMap.1 hx;obtain⟨q,hq,rfl⟩:=List.mem_map.1 hx;have h1:=eQ (ha p hp);have h2:=eQ (hb q hq);have h3:=eQ hc;have h4:=eQ he;apply hf;rw[SY,<-hxe];have h5:f_ p.1 q.1=BD e c:=hxe;simp only[f_,BD,Prod.mk.injEq]at h5 ⊢;omega
theorem Lj {S:Nat}(hS:1<=S){a b c:List aW}(ha:PV S a)(hb:PV S b)(hc:PV S c):iA (iA a b) c=iA a (iA b c):=by
 have h1:=gT hS ha hb;have h2:=gT hS hb hc;refine PV.ext (gT (by omega) h1 hc) (gT hS ha h2) (fun e => ?_);rw[lK,lK];split
 ·rename_i he;rw[<-gI,kF,gI,BG (g:=tot (bB a b)) (fun p hp=>EB ha.fits hb.fits (hc.fits p hp) he),<-gI,kF,yX,gI];exact BG fun p hp=>(EB hb.fits hc.fits (ha.fits p hp) he).symm
 ·rfl
theorem Ub {S:Nat}(hS:1<=S){a:List aW}(ha:PV S a)(h1:PV S (bV 1)):iA a (bV 1)=a:=by
 refine PV.ext (gT hS ha h1) ha (fun e => ?_);have hc:bV 1=[((0,0,0),1)]:=if_neg (by decide);rw[lK,<-gI,kF,hc,gI];have h2:cv [((0,0,0),(1:Rat))] (tot a) e=tot a e:=by
  simp only[cv];have h3:((e.1-0,e.2.1-0,e.2.2-0):fE)=e:=by
   obtain⟨x,y,z⟩:=e;simp
  rw[h3];grind
 rw[h2];split
 ·rfl
 ·rename_i hf;exact(kE fun p hp hpe=>hf (by rw[<-hpe];exact ha.fits p hp)).symm
theorem BH (x:BitVec 64):IntKind.wrap .u64 (x.toNat:Int)=(x.toNat:Int):=by
 have h:=x.isLt;rw[<-b_];exact wrap_u64 (by omega)
theorem BI (u v:Int):Am .u64 u v=((BitVec.ofInt 64 u ||| BitVec.ofInt 64 v).toNat:Int):=by
 rw[xA];exact BH _
theorem sK (u v:Int):nE .u64 u v=((BitVec.ofInt 64 u &&& BitVec.ofInt 64 v).toNat:Int):=by
 rw[zP];exact BH _
theorem BJ (x:BitVec 64):BitVec.ofInt 64 (x.toNat:Int)=x:=by simp
theorem Zh {u:Int}(h:zB u):((BitVec.ofInt 64 u).toNat:Int)=u:=by
 unfold zB at h;rw[BitVec.toNat_ofInt];omega
theorem or_comm (u v:Int):Am .u64 u v=Am .u64 v u:=by rw[BI,BI,BitVec.or_comm]
theorem and_comm (u v:Int):nE .u64 u v=nE .u64 v u:=by rw[sK,sK,BitVec.and_comm]
theorem or_assoc (u v w:Int):Am .u64 (Am .u64 u v) w=Am .u64 u (Am .u64 v w):=by
 simp only[BI,BJ,BitVec.or_assoc]
theorem and_assoc (u v w:Int):nE .u64 (nE .u64 u v) w=nE .u64 u (nE .u64 v w):=by
 simp only[sK,BJ,BitVec.and_assoc]
theorem abg (u v w:Int):nE .u64 u (Am .u64 v w)=Am .u64 (nE .u64 u v) (nE .u64 u w):=by
 simp only[BI,sK,BJ]
 congr 2
 ext i
 simp[Bool.and_or_distrib_left]
theorem or_zero {u:Int}(h:zB u):Am .u64 u 0=u:=by
 rw[BI];have h0:BitVec.ofInt 64 0=0#64:=rfl;rw[h0,BitVec.or_zero,Zh h]
theorem and_ones {u:Int}(h:zB u):nE .u64 u 18446744073709551615=u:=by
 rw[sK];have h0:BitVec.ofInt 64 18446744073709551615=BitVec.allOnes 64:=by decide
 rw[h0,BitVec.and_allOnes,Zh h]
section
theorem vW {S M:Nat}{x:Sv}(h:x.of 1 S M):∃ q,x=.q q/\qz q<=S:=by
 cases x with
 | q x=>exact⟨x,rfl,h.2⟩
 | c i n=>exact absurd h.1 (by decide)
 | s u=>exact absurd h.1 (by decide)
 | p a=>exact absurd h.1 (by decide)
theorem vX {S M:Nat}{x:Sv}(h:x.of 2 S M):∃ i n,x=.c i n/\0<=n/\n<=1099511627776/\(i=true->n=0):=by
 cases x with
 | c i n=>exact⟨i,n,rfl,h.2⟩
 | q x=>rcases h.1 with h | h;exact absurd h (by decide);exact absurd h.1 (by decide)
 | s u=>exact absurd h.1 (by decide)
 | p a=>exact absurd h.1 (by decide)
theorem vY {S M:Nat}{x:Sv}(h:x.of 3 S M):∃ q,x=.q q/\0<=q/\q<=1/\qz q<=S:=by
 cases x with
 | q x =>
  rcases h.1 with h1|h1
  ·exact absurd h1 (by decide)
  ·exact⟨x,rfl,h1.2.1,h1.2.2,h.2⟩
 | c i n=>exact absurd h.1 (by decide)
 | s u=>exact absurd h.1 (by decide)
 | p a=>exact absurd h.1 (by decide)
theorem vZ {S M:Nat}{x:Sv}(h:x.of 4 S M):∃ u,x=.s u/\zB u:=by
 cases x with
 | s u=>exact⟨u,rfl,h.2⟩
 | q x=>rcases h.1 with h | h;exact absurd h (by decide);exact absurd h.1 (by decide)
 | c i n=>exact absurd h.1 (by decide)
 | p a=>exact absurd h.1 (by decide)
theorem v_ {S M:Nat}{x:Sv}(h:x.of 5 S M):∃ a,x=.p a/\PV S a/\a.length<=M:=by
 cases x with
 | p a=>exact⟨a,rfl,h.2⟩
 | q x=>rcases h.1 with h | h;exact absurd h (by decide);exact absurd h.1 (by decide)
 | c i n=>exact absurd h.1 (by decide)
 | s u=>exact absurd h.1 (by decide)
def nS (k:Int):Sv:=if k=2 then .c false 0 else if k=4 then .s 18446744073709551615 else if k=5 then .p (bV 1) else .q 1
theorem XK {k:Int}(hk:single k=true)(S M:Nat)(hS:1<=S)(hM:1<=M):(nS k).of k S M:=by
 rcases aL hk with rfl|rfl|rfl|rfl|rfl
 ·exact⟨.inl rfl,Nat.le_trans xJ hS⟩
 ·exact⟨rfl,by decide,by decide,fun _=>rfl⟩
 ·exact⟨.inr ⟨rfl,by decide,by decide⟩,Nat.le_trans xJ hS⟩
 ·exact⟨rfl,by decide,by decide⟩
 ·exact⟨rfl,jX (Nat.le_trans xJ hS),Nat.le_trans (xQ 1) hM⟩
theorem pl1 (x y:Rat):dz 1 (.q x) (.q y)=.q (x+y):=rfl
theorem pl3 (x y:Rat):dz 3 (.q x) (.q y)=.q (if x<y then y else x):=by
 show(if x<y then Sv.q y else .q x)=_;split<;>rfl
theorem XL (i j:Bool)(n m:Int):dz 2 (.c i n) (.c j m)=if mX j m i n then .c j m else .c i n:=rfl
theorem pl4 (u v:Int):dz 4 (.s u) (.s v)=.s (Am .u64 u v):=rfl
theorem pl5 (a b:List aW):dz 5 (.p a) (.p b)=.p (fQ a b):=rfl
theorem VU (x y:Rat):df (.q x) (.q y)=.q (x*y):=rfl
theorem Uc (i j:Bool)(n m:Int):df (.c i n) (.c j m)=if i||(j||decide (1099511627776<n+m)) then .c true 0 else .c false (n+m):=rfl
theorem ti4 (u v:Int):df (.s u) (.s v)=.s (nE .u64 u v):=rfl
theorem ti5 (a b:List aW):df (.p a) (.p b)=.p (iA a b):=rfl
section laws
variable {k:Int} {S M:Nat} {x y z:Sv}
theorem abj {a b:Rat}(ha:0<=a/\a<=1)(hb:0<=b/\b<=1):0<=a*b/\a*b<=1:=by
 have h1:0<=a*b:=Rat.mul_nonneg ha.1 hb.1;have h2:0<=a*(1-b):=Rat.mul_nonneg ha.1 (by grind);constructor
 ·exact h1
 ·grind
theorem Ud (hk:single k=true)(hS:1<=S)(hM:1<=M)(hx:x.of k S M)(hy:y.of k S M):(df x y).of k (M*(S+S+1)+1) (M*M):=by
 have hb:S+S<=M*(S+S+1)+1:=by
  have:=Nat.mul_le_mul_right (S+S+1) hM;omega
 rcases aL hk with rfl|rfl|rfl|rfl|rfl
 ·obtain⟨a,rfl,ha⟩:=vW hx;obtain⟨b,rfl,hb'⟩:=vW hy;have:=AL a b;exact⟨.inl rfl,show qz (a*b)<=_ by omega⟩
 ·obtain⟨i,n,rfl,h1,h2,h3⟩:=vX hx;obtain⟨j,m,rfl,g1,g2,g3⟩:=vX hy;rw[Uc];split
  ·exact⟨rfl,by decide,by decide,fun _=>rfl⟩
  ·rename_i h;simp at h;exact⟨rfl,by omega,by omega,fun h=>by cases h⟩
 ·obtain⟨a,rfl,a0,a1,ha⟩:=vY hx;obtain⟨b,rfl,b0,b1,hb'⟩:=vY hy;have:=AL a b;exact⟨.inr ⟨rfl,abj ⟨a0,a1⟩ ⟨b0,b1⟩⟩,show qz (a*b)<=_ by omega⟩
 ·obtain⟨u,rfl,hu⟩:=vZ hx;obtain⟨v,rfl,hv⟩:=vZ hy;refine⟨rfl,?_⟩;show zB (nE .u64 u v);rw[sK];have:=(BitVec.ofInt 64 u &&& BitVec.ofInt 64 v).isLt;unfold zB;omega
 ·obtain⟨a,rfl,ha,la⟩:=v_ hx;obtain⟨b,rfl,hb',lb⟩:=v_ hy;refine⟨rfl,(gT hS ha hb').mono ?_,Nat.le_trans (yQ a b) (Nat.mul_le_mul la lb)⟩;exact Nat.add_le_add_right (Nat.mul_le_mul_right _ la) 1
theorem Pp (hk:single k=true)(hS:1<=S)(hx:x.of k S M)(hy:y.of k S M):dz k x y=dz k y x:=by
 rcases aL hk with rfl|rfl|rfl|rfl|rfl
 ·obtain⟨a,rfl,_⟩:=vW hx;obtain⟨b,rfl,_⟩:=vW hy;rw[pl1,pl1,Rat.add_comm]
 ·obtain⟨i,n,rfl,h1,h2,h3⟩:=vX hx;obtain⟨j,m,rfl,g1,g2,g3⟩:=vX hy;rw[XL,XL];unfold mX;cases i<;>cases j<;>simp at*<;>(repeat' split)<;>simp_all<;>omega
 ·obtain⟨a,rfl,_⟩:=vY hx;obtain⟨b,rfl,_⟩:=vY hy;rw[pl3,pl3]
  congr 1
  split<;>split<;>grind
 ·obtain⟨u,rfl,_⟩:=vZ hx;obtain⟨v,rfl,_⟩:=vZ hy;rw[pl4,pl4,or_comm]
 ·obtain⟨a,rfl,ha,_⟩:=v_ hx;obtain⟨b,rfl,hb,_⟩:=v_ hy;rw[pl5,pl5,Pm hS ha hb]
theorem Ll (hk:single k=true)(hS:1<=S)(hx:x.of k S M)(hy:y.of k S M):df x y=df y x:=by
 rcases aL hk with rfl|rfl|rfl|rfl|rfl
 ·obtain⟨a,rfl,_⟩:=vW hx;obtain⟨b,rfl,_⟩:=vW hy;rw[VU,VU,Rat.mul_comm]
 ·obtain⟨i,n,rfl,h1,h2,h3⟩:=vX hx;obtain⟨j,m,rfl,g1,g2,g3⟩:=vX hy;rw[Uc,Uc,Int.add_comm m n];cases i<;>cases j<;>rfl
 ·obtain⟨a,rfl,_⟩:=vY hx;obtain⟨b,rfl,_⟩:=vY hy;rw[VU,VU,Rat.mul_comm]
 ·obtain⟨u,rfl,_⟩:=vZ hx;obtain⟨v,rfl,_⟩:=vZ hy;rw[ti4,ti4,and_comm]
 ·obtain⟨a,rfl,ha,_⟩:=v_ hx;obtain⟨b,rfl,hb,_⟩:=v_ hy;rw[ti5,ti5,Pn hS ha hb]
theorem Lm (hk:single k=true)(hS:1<=S)(hx:x.of k S M)(hy:y.of k S M)(hz:z.of k S M):dz k (dz k x y) z=dz k x (dz k y z):=by
 rcases aL hk with rfl|rfl|rfl|rfl|rfl
 ·obtain⟨a,rfl,_⟩:=vW hx;obtain⟨b,rfl,_⟩:=vW hy;obtain⟨c,rfl,_⟩:=vW hz;simp only[pl1,Rat.add_assoc]
 ·obtain⟨i,n,rfl,h1,h2,h3⟩:=vX hx;obtain⟨j,m,rfl,g1,g2,g3⟩:=vX hy;obtain⟨o,l,rfl,f1,f2,f3⟩:=vX hz;rw[XL,XL]
  by_cases a:mX j m i n=true<;>by_cases b:mX o l j m=true<;>simp only[a,b,if_true,if_false,Bool.false_eq_true,XL]<;>unfold mX at*<;>cases i<;>cases j<;>cases o<;>simp at*<;>(repeat' split)<;>simp_all<;>omega
 ·obtain⟨a,rfl,_⟩:=vY hx;obtain⟨b,rfl,_⟩:=vY hy;obtain⟨c,rfl,_⟩:=vY hz;simp only[pl3]
  congr 1
  repeat' split
  all_goals grind
 ·obtain⟨u,rfl,_⟩:=vZ hx;obtain⟨v,rfl,_⟩:=vZ hy;obtain⟨w,rfl,_⟩:=vZ hz;simp only[pl4,or_assoc]
 ·obtain⟨a,rfl,ha,_⟩:=v_ hx;obtain⟨b,rfl,hb,_⟩:=v_ hy;obtain⟨c,rfl,hc,_⟩:=v_ hz;simp only[pl5,Li hS ha hb hc]
theorem IK (hk:single k=true)(hS:1<=S)(hx:x.of k S M)(hy:y.of k S M)(hz:z.of k S M):df (df x y) z=df x (df y z):=by
 rcases aL hk with rfl|rfl|rfl|rfl|rfl
 ·obtain⟨a,rfl,_⟩:=vW hx;obtain⟨b,rfl,_⟩:=vW hy;obtain⟨c,rfl,_⟩:=vW hz;simp only[VU,Rat.mul_assoc]
 ·obtain⟨i,n,rfl,h1,h2,h3⟩:=vX hx;obtain⟨j,m,rfl,g1,g2,g3⟩:=vX hy;obtain⟨o,l,rfl,f1,f2,f3⟩:=vX hz;rw[Uc,Uc]
  by_cases a:1099511627776<n+m<;>by_cases b:1099511627776<m+l<;>cases i<;>cases j<;>cases o<;>(try simp[a,b,Uc])<;>(try (repeat' split))<;>first|done|rfl|omega|(congr 1;omega)|(simp_all;omega)
 ·obtain⟨a,rfl,_⟩:=vY hx;obtain⟨b,rfl,_⟩:=vY hy;obtain⟨c,rfl,_⟩:=vY hz;simp only[VU,Rat.mul_assoc]
 ·obtain⟨u,rfl,_⟩:=vZ hx;obtain⟨v,rfl,_⟩:=vZ hy;obtain⟨w,rfl,_⟩:=vZ hz;simp only[ti4,and_assoc]
 ·obtain⟨a,rfl,ha,_⟩:=v_ hx;obtain⟨b,rfl,hb,_⟩:=v_ hy;obtain⟨c,rfl,hc,_⟩:=v_ hz;simp only[ti5,Lj hS ha hb hc]
theorem Lp (hk:single k=true)(hS:1<=S)(hx:x.of k S M)(hy:y.of k S M)(hz:z.of k S M):df x (dz k y z)=dz k (df x y) (df x z):=by
 rcases aL hk with rfl|rfl|rfl|rfl|rfl
 ·obtain⟨a,rfl,_⟩:=vW hx;obtain⟨b,rfl,_⟩:=vW hy;obtain⟨c,rfl,_⟩:=vW hz;simp only[VU,pl1,Rat.mul_add]
 ·obtain⟨i,n,rfl,h1,h2,h3⟩:=vX hx;obtain⟨j,m,rfl,g1,g2,g3⟩:=vX hy;obtain⟨o,l,rfl,f1,f2,f3⟩:=vX hz;rw[Uc,Uc,XL]
  by_cases a:1099511627776<n+m<;>by_cases b:1099511627776<n+l<;>by_cases c:l<m<;>cases i<;>cases j<;>cases o<;>(try simp[a,b,c,Uc,XL,mX])<;>(try (repeat' split))<;>first|done|rfl|omega|(congr 1;omega)|(simp_all;omega)
 ·obtain⟨a,rfl,a0,a1,_⟩:=vY hx;obtain⟨b,rfl,_⟩:=vY hy;obtain⟨c,rfl,_⟩:=vY hz;simp only[VU,pl3]
  congr 1
  split
  ·rename_i h;have h1:0<=a*(c-b):=Rat.mul_nonneg a0 (by grind);split
   ·rfl
   ·grind
  ·rename_i h;have h1:0<=a*(b-c):=Rat.mul_nonneg a0 (by grind);split
   ·grind
   ·rfl
 ·obtain⟨u,rfl,_⟩:=vZ hx;obtain⟨v,rfl,_⟩:=vZ hy;obtain⟨w,rfl,_⟩:=vZ hz;simp only[ti4,pl4,abg]
 ·obtain⟨a,rfl,ha,_⟩:=v_ hx;obtain⟨b,rfl,hb,_⟩:=v_ hy;obtain⟨c,rfl,hc,_⟩:=v_ hz;simp only[ti5,pl5,Ua hS ha hb hc]
theorem Pq (hk:single k=true)(hS:1<=S)(hx:x.of k S M):dz k x (dC k)=x:=by
 rcases aL hk with rfl|rfl|rfl|rfl|rfl
 ·obtain⟨a,rfl,_⟩:=vW hx;show Sv.q (a+0)=_;rw[Rat.add_zero]
 ·obtain⟨i,n,rfl,h1,h2,h3⟩:=vX hx;show(if mX true 0 i n then Sv.c true 0 else .c i n)=_;rfl
 ·obtain⟨a,rfl,a0,_⟩:=vY hx;show dz 3 (.q a) (.q 0)=_;rw[pl3,if_neg (by grind)]
 ·obtain⟨u,rfl,hu⟩:=vZ hx;show Sv.s (Am .u64 u 0)=_;rw[or_zero hu]
 ·obtain⟨a,rfl,ha,_⟩:=v_ hx;show Sv.p (fQ a [])=_;rw[T9 hS ha]
theorem Ps (hk:single k=true)(hS:1<=S)(hx:x.of k S M):df x (nS k)=x:=by
 rcases aL hk with rfl|rfl|rfl|rfl|rfl
 ·obtain⟨a,rfl,_⟩:=vW hx;show Sv.q (a*1)=_;rw[Rat.mul_one]
 ·obtain⟨i,n,rfl,h1,h2,h3⟩:=vX hx;show(if i||(false||decide (1099511627776<n+0)) then Sv.c true 0 else .c false (n+0))=_;cases i
  ·have:¬ 1099511627776<n+0:=by omega
   simp[this];omega
  ·rw[h3 rfl];rfl
 ·obtain⟨a,rfl,_⟩:=vY hx;show Sv.q (a*1)=_;rw[Rat.mul_one]
 ·obtain⟨u,rfl,hu⟩:=vZ hx;show Sv.s (nE .u64 u 18446744073709551615)=_;rw[and_ones hu]
 ·obtain⟨a,rfl,ha,_⟩:=v_ hx;show Sv.p (iA a (bV 1))=_;rw[Ub hS ha (jX (Nat.le_trans xJ hS))]
end laws
end
set_option maxHeartbeats 8000000
section
def dx (kk:Int)(ps:List Int):List Int:=if kk=6 then ps else [kk]
def bR (kk:Int)(xs:List Sv):W:=if kk=6 then fH (xs.map Sv.w) else(xs.headD (.q 0)).w
noncomputable def bq (xs ys:List Sv):List Sv:=(xs.zip ys).map fun p=>df p.1 p.2
theorem aN {kk:Int}{ps:List Int}(h:aI kk ps=true):∀ k ∈ dx kk ps,single k=true:=by
 unfold dx;split
 ·rename_i h6;subst h6;exact(Zg h).2.2
 ·rename_i h6;unfold aI at h;rw[if_pos h6]at h;simp only[Bool.and_eq_true]at h;intro k hk;rw[List.mem_singleton]at hk;subst hk;exact h.1
theorem dV {xs ys:List Sv}{i:Nat}{z:Sv}(h:(bq xs ys)[i]?=some z):∃ x y,xs[i]?=some x/\ys[i]?=some y/\z=df x y:=by
 unfold bq at h;rw[List.getElem?_map,Option.map_eq_some_iff]at h;obtain⟨⟨x,y⟩,h1,rfl⟩:=h;rw[List.getElem?_zip_eq_some]at h1;exact⟨x,y,h1.1,h1.2,rfl⟩
theorem Lr {S M:Nat}(hS:1<=S)(hM:1<=M){ks:List Int}(hs:∀ k ∈ ks,single k=true){xs ys:List Sv}(hx:gH S M ks xs)(hy:gH S M ks ys):gH (M*(S+S+1)+1) (M*M) ks (bq xs ys):=by
 refine⟨by simp[bq,hx.1,hy.1],fun i k z hk hz => ?_⟩;obtain⟨x,y,h2,h3,rfl⟩:=dV hz;exact Ud (hs k (List.mem_of_getElem? hk)) hS hM (hx.2 i k x hk h2) (hy.2 i k y hk h3)
theorem gH.mono {S T M M':Nat}{ks:List Int}{xs:List Sv}(h:gH S M ks xs)(hST:S<=T)(hM:M<=M'):gH T M' ks xs:=⟨h.1,fun i k x hk hx=>(h.2 i k x hk hx).mono hST hM⟩
theorem lL {ks:List Int}{l m:List Sv}(hl:l.length=ks.length)(hm:m.length=ks.length)(h:∀ (i:Nat) (k:Int) (x y:Sv),ks[i]?=some k->l[i]?=some x->m[i]?=some y->x=y):l=m:=by
 refine List.ext_getElem (by omega) (fun i h1 h2 => ?_);exact h i (ks[i]'(by omega)) _ _ (List.getElem?_eq_getElem (by omega)) (List.getElem?_eq_getElem h1) (List.getElem?_eq_getElem h2)
theorem bY {α:Type}{l:List α}{i:Nat}{x y:α}(h1:l[i]?=some x)(h2:l[i]?=some y):x=y:=by
 rw[h1]at h2;exact Option.some.inj h2
section laws
variable {S M:Nat} {ks:List Int} {xs ys zs:List Sv}
theorem iI (hx:xs.length=ks.length)(hy:ys.length=ks.length):(bL ks xs ys).length=ks.length:=by simp[bL,hx,hy]
theorem d_ (hx:xs.length=ks.length)(hy:ys.length=ks.length):(bq xs ys).length=ks.length:=by simp[bq,hx,hy]
theorem Ls (hS:1<=S)(hs:∀ k ∈ ks,single k=true)(hx:gH S M ks xs)(hy:gH S M ks ys):bL ks xs ys=bL ks ys xs:=by
 refine lL (iI hx.1 hy.1) (iI hy.1 hx.1) (fun i k u v hk hu hv => ?_);obtain⟨k1,x,y,a1,a2,a3,rfl⟩:=gu hu;obtain⟨k2,y',x',b1,b2,b3,rfl⟩:=gu hv;obtain rfl:=bY hk a1;obtain rfl:=bY hk b1;obtain rfl:=bY a2 b3;obtain rfl:=bY a3 b2;exact Pp (hs k (List.mem_of_getElem? hk)) hS (hx.2 i k _ hk a2) (hy.2 i k _ hk a3)
theorem IL (hS:1<=S)(hs:∀ k ∈ ks,single k=true)(hx:gH S M ks xs)(hy:gH S M ks ys):bq xs ys=bq ys xs:=by
 refine lL (d_ hx.1 hy.1) (d_ hy.1 hx.1) (fun i k u v hk hu hv => ?_);obtain⟨x,y,a2,a3,rfl⟩:=dV hu;obtain⟨y',x',b2,b3,rfl⟩:=dV hv;obtain rfl:=bY a2 b3;obtain rfl:=bY a3 b2;exact Ll (hs k (List.mem_of_getElem? hk)) hS (hx.2 i k _ hk a2) (hy.2 i k _ hk a3)
theorem IM (hS:1<=S)(hs:∀ k ∈ ks,single k=true)(hx:gH S M ks xs)(hy:gH S M ks ys)(hz:gH S M ks zs):bL ks (bL ks xs ys) zs=bL ks xs (bL ks ys zs):=by
 refine lL (iI (iI hx.1 hy.1) hz.1) (iI hx.1 (iI hy.1 hz.1)) (fun i k u v hk hu hv => ?_);obtain⟨k1,t,z,a1,a2,a3,rfl⟩:=gu hu;obtain⟨k2,x,y,c1,c2,c3,rfl⟩:=gu a2;obtain⟨k3,x',t',b1,b2,b3,rfl⟩:=gu hv;obtain⟨k4,y',z',d1,d2,d3,rfl⟩:=gu b3;obtain rfl:=bY hk a1;obtain rfl:=bY hk b1;obtain rfl:=bY hk c1;obtain rfl:=bY hk d1;obtain rfl:=bY c2 b2;obtain rfl:=bY c3 d2;obtain rfl:=bY a3 d3;exact Lm (hs k (List.mem_of_getElem? hk)) hS (hx.2 i k _ hk c2) (hy.2 i k _ hk c3) (hz.2 i k _ hk a3)
theorem FY (hS:1<=S)(hs:∀ k ∈ ks,single k=true)(hx:gH S M ks xs)(hy:gH S M ks ys)(hz:gH S M ks zs):bq (bq xs ys) zs=bq xs (bq ys zs):=by
 refine lL (d_ (d_ hx.1 hy.1) hz.1) (d_ hx.1 (d_ hy.1 hz.1)) (fun i k u v hk hu hv => ?_);obtain⟨t,z,a2,a3,rfl⟩:=dV hu;obtain⟨x,y,c2,c3,rfl⟩:=dV a2;obtain⟨x',t',b2,b3,rfl⟩:=dV hv;obtain⟨y',z',d2,d3,rfl⟩:=dV b3;obtain rfl:=bY c2 b2;obtain rfl:=bY c3 d2;obtain rfl:=bY a3 d3;exact IK (hs k (List.mem_of_getElem? hk)) hS (hx.2 i k _ hk c2) (hy.2 i k _ hk c3) (hz.2 i k _ hk a3)
theorem IP (hS:1<=S)(hs:∀ k ∈ ks,single k=true)(hx:gH S M ks xs)(hy:gH S M ks ys)(hz:gH S M ks zs):bq xs (bL ks ys zs)=bL ks (bq xs ys) (bq xs zs):=by
 refine lL (d_ hx.1 (iI hy.1 hz.1)) (iI (d_ hx.1 hy.1) (d_ hx.1 hz.1)) (fun i k u v hk hu hv => ?_);obtain⟨x,t,a2,a3,rfl⟩:=dV hu;obtain⟨k2,y,z,c1,c2,c3,rfl⟩:=gu a3;obtain⟨k3,s,t',b1,b2,b3,rfl⟩:=gu hv;obtain⟨x',y',d2,d3,rfl⟩:=dV b2;obtain⟨x'',z',e2,e3,rfl⟩:=dV b3;obtain rfl:=bY hk b1;obtain rfl:=bY hk c1;obtain rfl:=bY a2 d2;obtain rfl:=bY a2 e2;obtain rfl:=bY c2 d3;obtain rfl:=bY c3 e3;exact Lp (hs k (List.mem_of_getElem? hk)) hS (hx.2 i k _ hk a2) (hy.2 i k _ hk c2) (hz.2 i k _ hk c3)
theorem nG {f:Int->Sv}{i:Nat}{k:Int}{z:Sv}(hk:ks[i]?=some k)(h:(ks.map f)[i]?=some z):z=f k:=by
 rw[List.getElem?_map,hk]at h;exact(Option.some.inj h).symm
theorem BK (hS:1<=S)(hs:∀ k ∈ ks,single k=true)(hx:gH S M ks xs):bL ks xs (ks.map dC)=xs:=by
 refine lL (iI hx.1 (by simp)) hx.1 (fun i k u v hk hu hv => ?_);obtain⟨k1,x,y,a1,a2,a3,rfl⟩:=gu hu;obtain rfl:=bY hk a1;obtain rfl:=bY a2 hv;rw[nG hk a3];exact Pq (hs k (List.mem_of_getElem? hk)) hS (hx.2 i k _ hk a2)
theorem Lt (hS:1<=S)(hs:∀ k ∈ ks,single k=true)(hx:gH S M ks xs):bq xs (ks.map nS)=xs:=by
 refine lL (d_ hx.1 (by simp)) hx.1 (fun i k u v hk hu hv => ?_);obtain⟨x,y,a2,a3,rfl⟩:=dV hu;obtain rfl:=bY a2 hv;rw[nG hk a3];exact Ps (hs k (List.mem_of_getElem? hk)) hS (hx.2 i k _ hk a2)
theorem IQ (hs:∀ k ∈ ks,single k=true)(hx:gH S M ks xs):bq xs (ks.map dC)=ks.map dC:=by
 refine lL (d_ hx.1 (by simp)) (by simp) (fun i k u v hk hu hv => ?_);obtain⟨x,y,a2,a3,rfl⟩:=dV hu;rw[nG hk a3,nG hk hv];exact Lb (hs k (List.mem_of_getElem? hk)) (hx.2 i k _ hk a2)
theorem jY (hS:1<=S)(hs:∀ k ∈ ks,single k=true):gH S M ks (ks.map dC):=⟨by simp,fun i k x hk hx=>by rw[nG hk hx];exact TN (hs k (List.mem_of_getElem? hk)) S M hS⟩
theorem IU (hS:1<=S)(hM:1<=M)(hs:∀ k ∈ ks,single k=true):gH S M ks (ks.map nS):=⟨by simp,fun i k x hk hx=>by rw[nG hk hx];exact XK (hs k (List.mem_of_getElem? hk)) S M hS hM⟩
end laws
section ring
variable {kk:Int} {ps:List Int} {S M:Nat} {xs ys:List Sv}
theorem qZ {k:Int}(h:gH S M [k] xs):∃ x,xs=[x]/\x.of k S M:=by
 match xs,h with
 | [x],h=>exact⟨x,rfl,h.2 0 k x rfl rfl⟩
 | [],h=>simp[gH]at h
 | _::_::_,h=>simp[gH]at h
theorem sM (h:aI kk ps=true)(h6:kk≠6):ps=[]/\single kk=true:=by
 unfold aI at h;rw[if_pos h6]at h;simp only[Bool.and_eq_true,decide_eq_true_eq]at h;exact⟨h.2,h.1⟩
theorem IV (hv:aI kk ps=true)(hS:S<=1000)(h:gH S M (dx kk ps) xs):(bR kk xs).OK:=by
 unfold bR
 by_cases h6:kk=6
 ·subst h6;rw[if_pos rfl];unfold dx at h;rw[if_pos rfl]at h;exact Nk hS (Zg hv).1 h
 ·rw[if_neg h6];unfold dx at h;rw[if_neg h6]at h;obtain⟨x,rfl,hx⟩:=qZ h;exact TR hx hS
theorem BL (hv:aI kk ps=true)(h:gH S M (dx kk ps) xs):cz kk ps (bR kk xs)=true:=by
 unfold bR
 by_cases h6:kk=6
 ·subst h6;rw[if_pos rfl];unfold dx at h;rw[if_pos rfl]at h;exact BC hv h
 ·rw[if_neg h6];unfold dx at h;rw[if_neg h6]at h;obtain⟨x,rfl,hx⟩:=qZ h;unfold cz;rw[hv,if_pos h6];exact TQ hx
theorem uH (hv:aI kk ps=true):ps.length<=1000000:=by
 by_cases h6:kk=6
 ·subst h6;have:=(Zg hv).1;omega
 ·rw[(sM hv h6).1];simp
theorem IW (hv:aI kk ps=true)(hS:S<=1000)(h:gH S M (dx kk ps) xs):Ca E1 41 [.d (bz kk ps),.d (bR kk xs).d] (.d (bR kk xs).d,none) :=
 FW (uH hv) (IV hv hS h) (BL hv h)
theorem Nn (hv:aI kk ps=true)(hS:S<=1000)(hM:(M+M)*(S+1)<=50000)(hx:gH S M (dx kk ps) xs)(hy:gH S M (dx kk ps) ys) :
  Ca E1 14 [.d (bz kk ps),.d (bR kk xs).d,.d (bR kk ys).d] (.d (bR kk (bL (dx kk ps) xs ys)).d,none):=by
 have vx:=IW hv hS hx;have vy:=IW hv hS hy;unfold bR dx at*
 by_cases h6:kk=6
 ·subst h6;simp only[if_true]at*;exact Lg hS hM hv _ _ hx hy vx vy
 ·simp only[if_neg h6]at*;obtain⟨rfl,hs⟩:=sM hv h6;obtain⟨x,rfl,hx'⟩:=qZ hx;obtain⟨y,rfl,hy'⟩:=qZ hy;exact TL hs _ _ _ _ _ vx vy (II hs hS hM hx' hy')
theorem XM (hv:aI kk ps=true)(hS:S<=1000)(h:gH S M (dx kk ps) xs):Ca E1 12 [.d (bR kk xs).d,.d (bR kk xs).d] (.d (.v (.bool true)),none):=by
 have hok:=IV hv hS h;have:=xH _ hok _ hok;rw[W.zW]at this;exact Ca.fG this
end ring
end
end Fi.S
noncomputable section
namespace Fi.S
open Go Fi
set_option maxHeartbeats 8000000
set_option maxRecDepth 10000
theorem Ue {k:Int}(hk:single k=true):(nS k).w.d=FZ k:=by
 have h1:qs 1=false:=by decide
 have h2:qn 1=[1]:=by
  show enc 1=[1]
  exact jf (by omega) (by omega)
 have h3:qd 1=[]:=if_pos rfl;have hc:bV 1=[((0,0,0),1)]:=if_neg (by decide);rcases aL hk with rfl|rfl|rfl|rfl|rfl
 ·simp[nS,FZ,Sv.w,W.d,W.ds,PD,LD,LL,h1,h2,h3]
 ·simp[nS,FZ,Sv.w,W.d,W.ds,PD,LD,LL]
 ·simp[nS,FZ,Sv.w,W.d,W.ds,PD,LD,LL,h1,h2,h3]
 ·simp[nS,FZ,Sv.w,W.d,W.ds,PD,LD,LL]
 ·simp[nS,FZ,Sv.w,W.d,W.ds,PD,LD,LL,hc,tX,Mo.d,h1,h2,h3,IX]
theorem abk {kk:Int}{ps:List Int}(h:aI kk ps=true):(bR kk ((dx kk ps).map nS)).d=Ew kk ps:=by
 have hs:=aN h;unfold bR dx Ew at*
 by_cases h6:kk=6
 ·subst h6;simp only[if_true]at*;have:W.ds ((ps.map nS).map Sv.w)=ps.map FZ:=by
   rw[W.gM,List.map_map,List.map_map];exact List.map_congr_left fun x hx=>Ue (hs x hx)
  show D.a [.v (.bool false),.s 1 [],.s 1 [],.v (.int .i64 0),.v (.bool false),.v (.int .u64 0),.s 6 [],.s 8 (W.ds ((ps.map nS).map Sv.w))]=_;rw[this]
 ·simp only[if_neg h6]at*;exact Ue (hs kk (by simp))
theorem Lu (k:Int):(qY k=6/\(yT k=[1,2]\/yT k=[3,4,5]))\/((qY k=1\/qY k=2\/qY k=3\/qY k=4\/qY k=5)/\yT k=[]):=by
 have h1:=Int.emod_nonneg k (show(7:Int)≠0 by omega);have h2:=Int.emod_lt_of_pos k (show(0:Int)<7 by omega);unfold qY yT
 by_cases h5:k % 7=5
 ·left;rw[if_pos (.inl h5),if_pos h5];exact⟨rfl,.inl rfl⟩
 ·by_cases h6:k % 7=6
  ·left;rw[if_pos (.inr h6),if_neg h5,if_pos h6];exact⟨rfl,.inr rfl⟩
  ·right
   rw[if_neg (by rintro(h|h)<;>contradiction),if_neg h5,if_neg h6];exact⟨by omega,rfl⟩
theorem Lv (k:Int):aI (qY k) (yT k)=true:=by
 rcases Lu k with ⟨h1,h2|h2⟩|⟨h1|h1|h1|h1|h1,h2⟩<;>rw[h1,h2]<;>decide
theorem XN {kk:Int}{ps:List Int}(h:aI kk ps=true):Ca E1 27 [.d (bz kk ps)] (.d (bR kk ((dx kk ps).map nS)).d,none)/\Ca E1 20 [.d (bz kk ps)] (.d (bR kk ((dx kk ps).map nS)).d,none):=by
 rw[abk h];exact XH h
theorem EC {kk:Int}{ps:List Int}(h:aI kk ps=true):Ca E1 26 [.d (bz kk ps)] (.d (bR kk ((dx kk ps).map dC)).d,none):=by
 have h1:=TU h;have e:IJ kk ps=bR kk ((dx kk ps).map dC):=by
  unfold IJ bR dx
  by_cases h6:kk=6
  ·simp only[if_pos h6,List.map_map];rfl
  ·simp only[if_neg h6];rfl
 rw[e]at h1;exact h1
noncomputable def q8 (kk:Int) (ps:List Int) (v:Int):List Sv:=if kk=6 then(List.range ps.length).map fun i=>Bz (ps.getD i 0) (ah .i64 (v+i)) else [Bz kk v]
theorem yY {k:Int}(hk:single k=true)(v:Int)(hv:fu v):Ca E1 16 [.d (bz k []),.d (.v (.int .i64 v))] (.d (Bz k v).w.d,none):=by
 unfold Bz;rcases aL hk with rfl|rfl|rfl|rfl|rfl
 ·exact ad4 v hv
 ·exact ad5 v hv
 ·exact abe v hv
 ·exact ad6 v hv
 ·exact ad7 v hv
theorem Uf (z:Int):fu (ah .i64 z):=by
 have h:=Go.wf_wrap .i64 z;rw[b_];exact wf_i64 h
theorem ED {kk:Int}{ps:List Int}(h:aI kk ps=true)(v:Int):gH 9 2 (dx kk ps) (q8 kk ps v):=by
 have hs:=aN h;unfold q8 dx at*
 by_cases h6:kk=6
 ·simp only[if_pos h6]at*;refine⟨by simp,fun i k x hk hx => ?_⟩;have hi:i<ps.length:=(bH hk)
  rw[List.getElem?_map,List.getElem?_range hi]at hx;simp only[Option.map_some,Option.some.injEq]at hx;subst hx;have hg:ps.getD i 0=k:=by rw[List.getD_eq_getElem?_getD,hk];rfl
  rw[hg];exact Ni (hs k (List.mem_of_getElem? hk)) _
 ·simp only[if_neg h6]at*;refine⟨rfl,fun i k x hk hx => ?_⟩
  match i with
  | 0 =>
   cases hk;cases hx;exact Ni (hs kk (by simp)) v
  | i+1=>cases hk
theorem IY {kk:Int}{ps:List Int}(h:aI kk ps=true)(v:Int)(hv:fu v):Ca E1 16 [.d (bz kk ps),.d (.v (.int .i64 v))] (.d (bR kk (q8 kk ps v)).d,none):=by
 have hs:=aN h;unfold q8 bR dx at*
 by_cases h6:kk=6
 ·subst h6;simp only[if_true]at*;refine TZ v ps _ (Zg h).1 (by simp) (fun i k z hk hz => ?_);have hi:i<ps.length:=(bH hk)
  rw[List.getElem?_map,List.getElem?_map,List.getElem?_range hi]at hz;simp only[Option.map_some,Option.some.injEq]at hz;subst hz;have hg:ps.getD i 0=k:=by rw[List.getD_eq_getElem?_getD,hk];rfl
  rw[hg];exact yY (hs k (List.mem_of_getElem? hk)) _ (Uf _)
 ·simp only[if_neg h6]at*;obtain⟨rfl,hk⟩:=sM h h6;exact yY hk v hv
end Fi.S
namespace Fi.S
open Go Fi
set_option maxHeartbeats 8000000
set_option maxRecDepth 10000
theorem Pt {k:Int}{S M:Nat}(hS:S<=1000){x:Sv}(h:x.of k S M):∃ s l1 l2 c b u p,x.w.d=wD s l1 l2 c b u p [] /\
  Ca E1 85 [.d (.a [.v (.bool s),.s 1 l1,.s 1 l2])] (.d (.a [.v (.bool s),.s 1 l1,.s 1 l2]),none)/\Ca E1 86 [.d (.s 6 p)] (.d (.s 6 p),none):=by
 have t0:=Ca.fG (il 0 (by have:=jA;omega));rw[vL]at t0;obtain⟨_,p0,rfl⟩:=oU (PV.nil S) hS;cases x with
 | q x =>
  have:=h.2;exact⟨_,_,_,_,_,_,_,rfl,Ca.fG (il x (by omega)),p0⟩
 | c i n=>exact⟨_,_,_,_,_,_,_,rfl,t0,p0⟩
 | s u=>exact⟨_,_,_,_,_,_,_,rfl,t0,p0⟩
 | p l =>
  obtain⟨_,t1,rfl⟩:=oU h.2.1 hS;exact⟨_,_,_,_,_,_,_,TA l,t0,t1⟩
theorem dJ (kk:Int)(ps:List Int)(i:Nat)(j:Int)(hj:j=i)(a:Int)(h:ps[i]?=some a):Ca E1 56 [.d (bz kk ps),.d (.v (.int .i64 j))] (.d (bz a []),none):=by
 subst hj;have e1:(LK .i64 ps)[i]?=some (.v (.int .i64 a)):=by simp[LK,h]
 have hl:i<(LK .i64 ps).length:=(bH e1)
 have h0:(0:Int)<=(i:Int):=by omega
 refine Ca.bO (n:=60) ?_;rw[ak rfl (k56:E1.fn _=_) rfl];have e2:=idx e1;have e0:LK .i64 []=[]:=rfl;unfold bz;rw[e0];generalize LK .i64 ps=l1 at*;simp -implicitDefEqProofs[f56,e1,e2,hl,h0]
theorem Np:ah .i64 1=1:=wrap_i64 (by omega)
theorem wr2:ah .i64 2=2:=wrap_i64 (by omega)
theorem wr3:ah .i64 3=3:=wrap_i64 (by omega)
theorem dS {k:Int}(hk:single k=true):aI k []=true/\k≠6:=by
 have h6:k≠6:=by
  rintro rfl;exact absurd hk (by decide)
 exact⟨by unfold aI;rw[if_pos h6,hk];rfl,h6⟩
theorem nT {kk:Int}{ps:List Int}{S M:Nat}{xs:List Sv}(hv:aI kk ps=true)(h:gH S M (dx kk ps) xs) :
  (single kk=true/\ps=[]/\∃ x,xs=[x]/\x.of kk S M) \/
  (kk=6/\∃ a b x y,ps=[a,b]/\xs=[x,y]/\single a=true/\single b=true/\x.of a S M/\y.of b S M) \/
  (kk=6/\∃ a b c x y z,ps=[a,b,c]/\xs=[x,y,z]/\single a=true/\single b=true/\single c=true/\x.of a S M/\y.of b S M/\z.of c S M):=by
 have hs:=aN hv
 by_cases h6:kk=6
 ·subst h6;obtain⟨l3,l2,_⟩:=Zg hv;unfold dx at*;rw[if_pos rfl]at h hs;have hl:=h.1
  match ps,xs,l3,l2,hl with
  | [a,b],[x,y],_,_,_=>exact .inr (.inl ⟨rfl,a,b,x,y,rfl,rfl,hs a (by simp),hs b (by simp),h.2 0 a x rfl rfl,h.2 1 b y rfl rfl⟩)
  | [a,b,c],[x,y,z],_,_,_=>exact .inr (.inr ⟨rfl,a,b,c,x,y,z,rfl,rfl,hs a (by simp),hs b (by simp),hs c (by simp),h.2 0 a x rfl rfl,h.2 1 b y rfl rfl,h.2 2 c z rfl rfl⟩)
 ·obtain⟨rfl,hk⟩:=sM hv h6;unfold dx at h;rw[if_neg h6]at h;obtain⟨x,rfl,hx⟩:=qZ h;exact .inl ⟨hk,rfl,x,rfl,hx⟩
theorem mk_one {k:Int}(hk:single k=true)(x:Sv):bR k [x]=x.w:=if_neg (dS hk).2
theorem XO {k:Int}(hk:single k=true){S M:Nat}{x:Sv}(h:x.of k S M):gH S M (dx k []) [x]:=by
 unfold dx;rw[if_neg (dS hk).2];exact⟨rfl,fun i k' x' h1 h2=>by
  match i with
  | 0=>cases h1;cases h2;exact h
  | i+1=>cases h1⟩
theorem nH {k:Int}(hk:single k=true){S M:Nat}(hS1:1<=S)(hS:S<=1000){x:Sv}(h:x.of k S M):Ca E1 53 [.d (bz k []),.d x.w.d] (.d x.w.d,none):=by
 have hc:=Ca.fG (sw k [] x.w (by simp) (TR h hS));have hm:=BL (dS hk).1 (XO hk h);rw[mk_one hk]at hm;rw[hm]at hc;obtain⟨s,l1,l2,c,b,u,p,e,t1,t2⟩:=Pt hS h;rw[e]at hc ⊢;obtain⟨K,hK,a0,a1,a2⟩:=(hc.j (t1.j t2.any)).at 0;clear hc t1 t2 e h hm hK;refine Ca.bO (n:=K+200) ?_;rw[ak rfl (k53:E1.fn _=_) rfl];unfold wD bz at*;generalize LK .i64 []=l0 at*;simp -implicitDefEqProofs[aC,f53,a0,a1,a2]
theorem jZ (xs:List Sv):(fH (xs.map Sv.w)).d=wD false [] [] 0 false 0 [] (xs.map fun x=>x.w.d):=by
 show D.a [.v (.bool false),.s 1 [],.s 1 [],.v (.int .i64 0),.v (.bool false),.v (.int .u64 0),.s 6 [],.s 8 (W.ds (xs.map Sv.w))]=_;rw[W.gM,List.map_map];rfl
theorem BM {ps:List Int}{S M:Nat}{xs:List Sv}(hv:aI 6 ps=true)(hS1:1<=S)(hS:S<=1000)(h:gH S M ps xs) :
  Ca E1 29 [.d (bz 6 ps),.d (wD false [] [] 0 false 0 [] (xs.map fun x=>x.w.d))] (.d (.v (.bool true)),none)/\Ca E1 85 [.d (.a [.v (.bool false),.s 1 [],.s 1 []])] (.d (.a [.v (.bool false),.s 1 [],.s 1 []]),none)/\Ca E1 86 [.d (.s 6 [])] (.d (.s 6 []),none):=by
 have hc:=Ca.fG (sw 6 ps (fH (xs.map Sv.w)) (uH hv) (Nk hS (Zg hv).1 h));rw[BC hv h,jZ]at hc;have t0:=Ca.fG (il 0 (by have:=jA;omega));rw[vL]at t0;obtain⟨_,p0,rfl⟩:=oU (PV.nil S) hS;exact⟨hc,t0,p0⟩
theorem wh {kk:Int}{ps:List Int}{S M:Nat}{xs:List Sv}(hv:aI kk ps=true)(hS1:1<=S)(hS:S<=1000)(h:gH S M (dx kk ps) xs):Ca E1 53 [.d (bz kk ps),.d (bR kk xs).d] (.d (bR kk xs).d,none):=by
 rcases nT hv h with ⟨hk,rfl,x,rfl,hx⟩|⟨rfl,a,b,x,y,rfl,rfl,ha,hb,hx,hy⟩|⟨rfl,a,b,c,x,y,z,rfl,rfl,ha,hb,hc,hx,hy,hz⟩
 ·rw[mk_one hk];exact nH hk hS1 hS hx
 ·obtain⟨f1,f2,f3⟩:=BM hv hS1 hS h;obtain⟨K,hK,a0,a1,a2,b0,b1,p0,p1⟩:=((f1).j ((f2).j ((f3).j ((nH ha hS1 hS hx).j ((nH hb hS1 hS hy).j ((dJ 6 [a,b] 0 0 rfl a rfl).j ((dJ 6 [a,b] 1 1 rfl b rfl).any))))))).at 0;have e0:∀ l,bR 6 l=fH (l.map Sv.w):=fun _=>rfl
  rw[e0,jZ];simp only[List.map_cons,List.map_nil]at*;obtain⟨xs,x1,x2,xc,xb,xu,xp,xq,ex⟩:=x.w.aM;obtain⟨ys,y1,y2,yc,yb,yu,yp,yq,ey⟩:=y.w.aM;simp only[ex,ey]at*;clear hK f1 f2 f3 e0 h hv hx hy ex ey;refine Ca.bO (n:=K+500) ?_;rw[ak rfl (k53:E1.fn _=_) rfl];unfold wD bz at*;generalize LK .i64 []=l0 at*;simp only[show LK .i64 [a,b]=[.v (.int .i64 a),.v (.int .i64 b)] from rfl]at*;simp (maxSteps:=500000) -implicitDefEqProofs[aC,f53,a0,a1,a2,b0,b1,p0,p1,most,Np,wr2,wr3,ae.view]
 ·obtain⟨f1,f2,f3⟩:=BM hv hS1 hS h;obtain⟨K,hK,a0,a1,a2,b0,b1,b2,p0,p1,p2⟩:=((f1).j ((f2).j ((f3).j ((nH ha hS1 hS hx).j ((nH hb hS1 hS hy).j ((nH hc hS1 hS hz).j ((dJ 6 [a,b,c] 0 0 rfl a rfl).j ((dJ 6 [a,b,c] 1 1 rfl b rfl).j ((dJ 6 [a,b,c] 2 2 rfl c rfl).any))))))))).at 0;have e0:∀ l,bR 6 l=fH (l.map Sv.w):=fun _=>rfl
  rw[e0,jZ];simp only[List.map_cons,List.map_nil]at*;obtain⟨xs,x1,x2,xc,xb,xu,xp,xq,ex⟩:=x.w.aM;obtain⟨ys,y1,y2,yc,yb,yu,yp,yq,ey⟩:=y.w.aM;obtain⟨zs,z1,z2,zc,zb,zu,zp,zq,ez⟩:=z.w.aM;simp only[ex,ey,ez]at*;clear hK f1 f2 f3 e0 h hv hx hy hz ex ey ez;refine Ca.bO (n:=K+500) ?_;rw[ak rfl (k53:E1.fn _=_) rfl];unfold wD bz at*;generalize LK .i64 []=l0 at*;simp only[show LK .i64 [a,b,c]=[.v (.int .i64 a),.v (.int .i64 b),.v (.int .i64 c)] from rfl]at*;simp (maxSteps:=500000) -implicitDefEqProofs[aC,f53,a0,a1,a2,b0,b1,b2,p0,p1,p2,most,Np,wr2,wr3,ae.view]
theorem QS (x:Rat):∃ s n d,(Sv.q x).w.d=wD s n d 0 false 0 [] []/\qD x=.a [.v (.bool s),.s 1 n,.s 1 d]:=⟨_,_,_,rfl,rfl⟩
theorem Nq {k:Int}(hk:single k=true){S M:Nat}(hS1:1<=S)(hS:S<=1000){x y:Sv}(hx:x.of k S M)(hy:y.of k S M){vw ww:W}(tx:Ca E1 53 [.d (bz k []),.d vw.d] (.d x.w.d,none))(ty:Ca E1 53 [.d (bz k []),.d ww.d] (.d y.w.d,none)) :
  Ca E1 19 [.d (bz k []),.d vw.d,.d ww.d] (.d (dz k x y).w.d,none):=by
 have tv:=Ca.fG (Ca.bO (fF 0 k []));rw[(dS hk).1]at tv;obtain⟨vs,Zd,Ze,vc,vb,vu,vp,Zf,ev⟩:=vw.aM;obtain⟨ws,wl1,wl2,wc,wb,wu,wp,wps,ew⟩:=ww.aM;rw[ev]at tx ⊢;rw[ew]at ty ⊢;clear ev ew;rcases aL hk with rfl|rfl|rfl|rfl|rfl
 ·obtain⟨a,rfl,ha⟩:=vW hx;obtain⟨b,rfl,hb⟩:=vW hy;obtain⟨K,hK,a0,a1,a2,a3⟩:=((tv).j ((tx).j ((ty).j ((Ca.fG (zS a b (by omega) (by omega))).any)))).at 0;obtain⟨s1,n1,d1,e1,g1⟩:=QS a;obtain⟨s2,n2,d2,e2,g2⟩:=QS b;rw[pl1];obtain⟨s3,n3,d3,e3,g3⟩:=QS (a+b);rw[g1,g2,g3]at a3;rw[e1]at a1;rw[e2]at a2;rw[e3];clear hK tv tx ty;refine Ca.bO (n:=K+300) ?_;rw[ak rfl (k19:E1.fn _=_) rfl]
  (try unfold wD at*)
  unfold bz at*;generalize LK .i64 []=l0 at*;simp -implicitDefEqProofs[aC,f19,a0,a1,a2,a3]
 ·obtain⟨i,n,rfl,hn0,hn1,hin⟩:=vX hx;obtain⟨j,m,rfl,hm0,hm1,hjm⟩:=vX hy;obtain⟨K,hK,a0,a1,a2⟩:=((tv).j ((tx).j ((ty).any))).at 0;rw[XL];have hc1:∀ n,(Sv.c i n).w.d=wD false [] [] n i 0 [] []:=fun n=>rfl
  have hc2:∀ n,(Sv.c j n).w.d=wD false [] [] n j 0 [] []:=fun n=>rfl
  unfold mX;rw[hc1]at a1;rw[hc2]at a2
  by_cases h:m<n<;>cases i<;>cases j<;>(try obtain rfl:=hin rfl)<;>(try obtain rfl:=hjm rfl)<;>(try exact absurd h (by omega))<;>simp only[h,Bool.not_true,Bool.not_false,Bool.false_and,Bool.true_and,Bool.and_true,Bool.or_true,Bool.true_or,Bool.false_or,decide_true,decide_false,if_true,if_false,Bool.false_eq_true,hc1,hc2] <;>
  (clear hK tv tx ty;refine Ca.bO (n:=K+300) ?_;rw[ak rfl (k19:E1.fn _=_) rfl];(try rw[hc1]);(try rw[hc2]);unfold wD bz at*;generalize LK .i64 []=l0 at*;simp -implicitDefEqProofs[f19,a0,a1,a2,h])
 ·obtain⟨a,rfl,_,_,ha⟩:=vY hx;obtain⟨b,rfl,_,_,hb⟩:=vY hy;obtain⟨K,hK,a0,a1,a2,a3⟩:=((tv).j ((tx).j ((ty).j ((Ca.fG (H7 a b (by omega) (by omega))).any)))).at 0;obtain⟨s1,n1,d1,e1,g1⟩:=QS a;obtain⟨s2,n2,d2,e2,g2⟩:=QS b;have ep:=pl3 a b
  by_cases hab:a<b
  ·rw[ep,if_pos hab];rw[decide_eq_true hab,g1,g2]at a3;simp only[e1,e2]at a1 a2 ⊢;clear hK tv tx ty;refine Ca.bO (n:=K+300) ?_;rw[ak rfl (k19:E1.fn _=_) rfl]
   (try unfold wD at*)
   unfold bz at*;generalize LK .i64 []=l0 at*;simp -implicitDefEqProofs[aC,f19,a0,a1,a2,a3]
  ·rw[ep,if_neg hab];rw[decide_eq_false hab,g1,g2]at a3;simp only[e1,e2]at a1 a2 ⊢;clear hK tv tx ty;refine Ca.bO (n:=K+300) ?_;rw[ak rfl (k19:E1.fn _=_) rfl]
   (try unfold wD at*)
   unfold bz at*;generalize LK .i64 []=l0 at*;simp -implicitDefEqProofs[aC,f19,a0,a1,a2,a3]
 ·obtain⟨u,rfl,hu⟩:=vZ hx;obtain⟨v,rfl,hv⟩:=vZ hy;obtain⟨K,hK,a0,a1,a2⟩:=((tv).j ((tx).j ((ty).any))).at 0;rw[pl4];have hc1:∀ u,(Sv.s u).w.d=wD false [] [] 0 false u [] []:=fun u=>rfl
  rw[hc1]at a1;rw[hc1]at a2;rw[hc1];clear hK tv tx ty;refine Ca.bO (n:=K+300) ?_;rw[ak rfl (k19:E1.fn _=_) rfl]
  (try unfold wD at*)
  unfold bz at*;generalize LK .i64 []=l0 at*;simp -implicitDefEqProofs[aC,f19,a0,a1,a2]
 ·obtain⟨a,rfl,ha,la⟩:=v_ hx;obtain⟨b,rfl,hb,lb⟩:=v_ hy;obtain⟨K,hK,a0,a1,a2,a3⟩:=((tv).j ((tx).j ((ty).j ((Iu hS1 hS ha hb).any)))).at 0;rw[pl5];simp only[TA]at a1 a2 ⊢;generalize fQ a b=c at*;unfold aR at*;generalize (a.map fun p=>qC p.1 p.2)=x1,(b.map fun p=>qC p.1 p.2)=x2,(c.map fun p=>qC p.1 p.2)=x3 at*;clear hK tv tx ty;refine Ca.bO (n:=K+300) ?_;rw[ak rfl (k19:E1.fn _=_) rfl]
  (try unfold wD at*)
  unfold bz at*;generalize LK .i64 []=l0 at*;simp -implicitDefEqProofs[aC,f19,a0,a1,a2,a3]
theorem wo {k:Int}(hk:single k=true){S M:Nat}(hS1:1<=S)(hS:S<=1000){x y:Sv}(hx:x.of k S M)(hy:y.of k S M) :
  Ca E1 19 [.d (bz k []),.d x.w.d,.d y.w.d] (.d (dz k x y).w.d,none):=Nq hk hS1 hS hx hy (nH hk hS1 hS hx) (nH hk hS1 hS hy)
theorem Ug {kk:Int}{ps:List Int}{S M:Nat}{xs ys:List Sv}(hv:aI kk ps=true)(hS1:1<=S)(hS:S<=1000)(hx:gH S M (dx kk ps) xs)(hy:gH S M (dx kk ps) ys){vw ww:W}(tx:Ca E1 53 [.d (bz kk ps),.d vw.d] (.d (bR kk xs).d,none))(ty:Ca E1 53 [.d (bz kk ps),.d ww.d] (.d (bR kk ys).d,none)) :
  Ca E1 19 [.d (bz kk ps),.d vw.d,.d ww.d] (.d (bR kk (bL (dx kk ps) xs ys)).d,none):=by
 have tv:=Ca.fG (Ca.bO (fF 0 kk ps));rw[hv]at tv;rcases nT hv hx with ⟨hk,rfl,x,rfl,h1⟩|⟨rfl,a,b,x1,x2,rfl,rfl,ha,hb,h1,h2⟩|⟨rfl,a,b,c,x1,x2,x3,rfl,rfl,ha,hb,hc,h1,h2,h3⟩
 ·have h6:=(dS hk).2;rcases nT hv hy with ⟨_,_,y,rfl,g1⟩|⟨h,_⟩|⟨h,_⟩
  ·unfold dx;rw[if_neg h6];rw[mk_one hk]at tx ty;show Ca E1 19 _ (.d (bR kk [dz kk x y]).d,none);rw[mk_one hk];exact Nq hk hS1 hS h1 g1 tx ty
  ·exact absurd h h6
  ·exact absurd h h6
 ·obtain⟨y1,y2,rfl,g1,g2⟩:∃ y1 y2,ys=[y1,y2]/\y1.of a S M/\y2.of b S M:=by
   have hl:=hy.1
   match ys,hl with
   | [y1,y2],_=>exact⟨y1,y2,rfl,hy.2 0 _ _ rfl rfl,hy.2 1 _ _ rfl rfl⟩
  obtain⟨K,hK,a0,a1,a2,b0,b1,p0,p1⟩:=((tv).j ((tx).j ((ty).j ((wo ha hS1 hS h1 g1).j ((wo hb hS1 hS h2 g2).j ((dJ 6 [a,b] 0 0 rfl a rfl).j ((dJ 6 [a,b] 1 1 rfl b rfl).any))))))).at 0;have e0:∀ l,bR 6 l=fH (l.map Sv.w):=fun _=>rfl
  have e1:bL (dx 6 [a,b]) [x1,x2] [y1,y2]=[dz a x1 y1,dz b x2 y2]:=rfl;rw[e1,e0,jZ];rw[e0,jZ]at a1 a2;obtain⟨vs,Zd,Ze,vc,vb,vu,vp,Zf,ev⟩:=vw.aM;obtain⟨ws,wl1,wl2,wc,wb,wu,wp,wps,ew⟩:=ww.aM;rw[ev]at a1 ⊢;rw[ew]at a2 ⊢;clear tx ty ev ew;simp only[List.map_cons,List.map_nil]at*;generalize dz a x1 y1=z1,dz b x2 y2=z2 at*;obtain⟨xs1,xm1,xn1,xc1,xb1,xu1,xp1,xq1,Uh⟩:=x1.w.aM;obtain⟨xs2,xm2,xn2,xc2,xb2,xu2,xp2,xq2,IZ⟩:=x2.w.aM;obtain⟨ys1,ym1,yn1,yc1,yb1,yu1,yp1,yq1,Ui⟩:=y1.w.aM;obtain⟨ys2,ym2,yn2,yc2,yb2,yu2,yp2,yq2,Uj⟩:=y2.w.aM;obtain⟨TJ,zm1,zn1,zc1,zb1,zu1,zp1,zq1,Uk⟩:=z1.w.aM;obtain⟨zs2,zm2,zn2,zc2,zb2,zu2,zp2,zq2,Nr⟩:=z2.w.aM;simp only[Uh,IZ,Ui,Uj,Uk,Nr]at*;clear hK tv e0 e1 hx hy hv h1 g1 h2 g2 Uh IZ Ui Uj Uk Nr;refine Ca.bO (n:=K+500) ?_;rw[ak rfl (k19:E1.fn _=_) rfl];unfold wD bz at*;generalize LK .i64 []=l0 at*;simp only[show LK .i64 [a,b]=[.v (.int .i64 a),.v (.int .i64 b)] from rfl]at*;simp (maxSteps:=500000) -implicitDefEqProofs[aC,f19,a0,a1,a2,b0,b1,p0,p1,most,Np,wr2,wr3,ae.view]
 ·obtain⟨y1,y2,y3,rfl,g1,g2,g3⟩:∃ y1 y2 y3,ys=[y1,y2,y3]/\y1.of a S M/\y2.of b S M/\y3.of c S M:=by
   have hl:=hy.1
   match ys,hl with
   | [y1,y2,y3],_=>exact⟨y1,y2,y3,rfl,hy.2 0 _ _ rfl rfl,hy.2 1 _ _ rfl rfl,hy.2 2 _ _ rfl rfl⟩
  obtain⟨K,hK,a0,a1,a2,b0,b1,b2,p0,p1,p2⟩:=((tv).j ((tx).j ((ty).j ((wo ha hS1 hS h1 g1).j ((wo hb hS1 hS h2 g2).j ((wo hc hS1 hS h3 g3).j ((dJ 6 [a,b,c] 0 0 rfl a rfl).j ((dJ 6 [a,b,c] 1 1 rfl b rfl).j ((dJ 6 [a,b,c] 2 2 rfl c rfl).any))))))))).at 0;have e0:∀ l,bR 6 l=fH (l.map Sv.w):=fun _=>rfl
  have e1:bL (dx 6 [a,b,c]) [x1,x2,x3] [y1,y2,y3]=[dz a x1 y1,dz b x2 y2,dz c x3 y3]:=rfl;rw[e1,e0,jZ];rw[e0,jZ]at a1 a2;obtain⟨vs,Zd,Ze,vc,vb,vu,vp,Zf,ev⟩:=vw.aM;obtain⟨ws,wl1,wl2,wc,wb,wu,wp,wps,ew⟩:=ww.aM;rw[ev]at a1 ⊢;rw[ew]at a2 ⊢;clear tx ty ev ew;simp only[List.map_cons,List.map_nil]at*;generalize dz a x1 y1=z1,dz b x2 y2=z2,dz c x3 y3=z3 at*;obtain⟨xs1,xm1,xn1,xc1,xb1,xu1,xp1,xq1,Uh⟩:=x1.w.aM;obtain⟨xs2,xm2,xn2,xc2,xb2,xu2,xp2,xq2,IZ⟩:=x2.w.aM;obtain⟨xs3,xm3,xn3,xc3,xb3,xu3,xp3,xq3,Zi⟩:=x3.w.aM;obtain⟨ys1,ym1,yn1,yc1,yb1,yu1,yp1,yq1,Ui⟩:=y1.w.aM;obtain⟨ys2,ym2,yn2,yc2,yb2,yu2,yp2,yq2,Uj⟩:=y2.w.aM;obtain⟨ys3,ym3,yn3,yc3,yb3,yu3,yp3,yq3,ey3⟩:=y3.w.aM;obtain⟨TJ,zm1,zn1,zc1,zb1,zu1,zp1,zq1,Uk⟩:=z1.w.aM;obtain⟨zs2,zm2,zn2,zc2,zb2,zu2,zp2,zq2,Nr⟩:=z2.w.aM;obtain⟨zs3,zm3,zn3,zc3,zb3,zu3,zp3,zq3,ez3⟩:=z3.w.aM;simp only[Uh,IZ,Zi,Ui,Uj,ey3,Uk,Nr,ez3]at*;clear hK tv e0 e1 hx hy hv h1 g1 h2 g2 h3 g3 Uh IZ Zi Ui Uj ey3 Uk Nr ez3;refine Ca.bO (n:=K+500) ?_;rw[ak rfl (k19:E1.fn _=_) rfl];unfold wD bz at*;generalize LK .i64 []=l0 at*;simp only[show LK .i64 [a,b,c]=[.v (.int .i64 a),.v (.int .i64 b),.v (.int .i64 c)] from rfl]at*;simp (maxSteps:=500000) -implicitDefEqProofs[aC,f19,a0,a1,a2,b0,b1,b2,p0,p1,p2,most,Np,wr2,wr3,ae.view]
theorem I6 {kk:Int}{ps:List Int}{S M:Nat}{xs ys:List Sv}(hv:aI kk ps=true)(hS1:1<=S)(hS:S<=1000)(hx:gH S M (dx kk ps) xs)(hy:gH S M (dx kk ps) ys) :
  Ca E1 19 [.d (bz kk ps),.d (bR kk xs).d,.d (bR kk ys).d] (.d (bR kk (bL (dx kk ps) xs ys)).d,none):=Ug hv hS1 hS hx hy (wh hv hS1 hS hx) (wh hv hS1 hS hy)
theorem sO {k:Int}(hk:single k=true):Ca E1 35 [.d (bz k [])] (.d (dC k).w.d,none):=by
 have tv:=Ca.fG (Ca.bO (fF 0 k []));rw[(dS hk).1]at tv;have e2:∀ b,W.d (.mk false [] [] 0 b 0 [] [])=wD false [] [] 0 b 0 [] []:=fun _=>rfl
 have eq0:(Sv.q 0).w.d=wD false [] [] 0 false 0 [] []:=by
  have h:=vL;obtain⟨s,n,d,e1,g1⟩:=QS 0;rw[e1];rw[g1]at h;simp only[D.a.injEq,List.cons.injEq,D.v.injEq,Value.bool.injEq,D.s.injEq,true_and,and_true]at h;obtain⟨rfl,rfl,rfl⟩:=h;rfl
 have e:(dC k).w.d=wD false [] [] 0 (k==2) 0 [] []:=by
  rcases aL hk with rfl|rfl|rfl|rfl|rfl
  ·exact eq0
  ·exact e2 _
  ·exact eq0
  ·exact e2 _
  ·exact e2 _
 rw[e];obtain⟨m0,a0⟩:=(tv).any;clear e e2 eq0 tv;refine Ca.bO (n:=m0+300) ?_;replace a0:=a0 m0 (by omega);rw[ak rfl (k35:E1.fn _=_) rfl];unfold wD bz at*;simp only[show LK .i64 []=[] from rfl]at*;rcases aL hk with rfl|rfl|rfl|rfl|rfl<;>simp -implicitDefEqProofs[aC,f35,a0]
theorem z8 {kk:Int}{ps:List Int}(hv:aI kk ps=true):Ca E1 35 [.d (bz kk ps)] (.d (bR kk ((dx kk ps).map dC)).d,none):=by
 have h:gH 1 1 (dx kk ps) ((dx kk ps).map dC):=jY (by omega) (aN hv);have tv:=Ca.fG (Ca.bO (fF 0 kk ps));rw[hv]at tv;have e0:∀ l,bR 6 l=fH (l.map Sv.w):=fun _=>rfl
 rcases nT hv h with ⟨hk,rfl,x,hxs,hx⟩|⟨rfl,a,b,x,y,rfl,hxs,ha,hb,hx,hy⟩|⟨rfl,a,b,c,x,y,z,rfl,hxs,ha,hb,hc,hx,hy,hz⟩
 ·rw[show dx kk []=[kk] from if_neg (dS hk).2,List.map_cons,List.map_nil,mk_one hk];exact sO hk
 ·clear h hxs;rw[show dx 6 [a,b]=[a,b] from rfl,e0,jZ];simp only[List.map_cons,List.map_nil];obtain⟨K,hK,a0,b0,p0,b1,p1⟩:=(tv.j ((sO ha).j ((dJ 6 [a,b] 0 0 rfl a rfl).j ((sO hb).j ((dJ 6 [a,b] 1 1 rfl b rfl).any))))).at 0;obtain⟨s0,l0,r0,c0,i0,u0,o0,g0,e0x⟩:=(dC a).w.aM;obtain⟨s1,l1,r1,c1,i1,u1,o1,g1,e1x⟩:=(dC b).w.aM;simp only[e0x,e1x]at*;clear hK tv e0 hv hx hy e0x e1x;refine Ca.bO (n:=K+500) ?_;rw[ak rfl (k35:E1.fn _=_) rfl];unfold wD bz at*;generalize LK .i64 []=l0 at*;simp only[show LK .i64 [a,b]=[.v (.int .i64 a),.v (.int .i64 b)] from rfl]at*;simp (maxSteps:=500000) -implicitDefEqProofs[aC,f35,a0,b0,p0,b1,p1,most,Np,wr2,wr3,ae.view]
 ·clear h hxs;rw[show dx 6 [a,b,c]=[a,b,c] from rfl,e0,jZ];simp only[List.map_cons,List.map_nil];obtain⟨K,hK,a0,b0,p0,b1,p1,b2,p2⟩:=(tv.j ((sO ha).j ((dJ 6 [a,b,c] 0 0 rfl a rfl).j ((sO hb).j ((dJ 6 [a,b,c] 1 1 rfl b rfl).j ((sO hc).j ((dJ 6 [a,b,c] 2 2 rfl c rfl).any))))))).at 0;obtain⟨s0,l0,r0,c0,i0,u0,o0,g0,e0x⟩:=(dC a).w.aM;obtain⟨s1,l1,r1,c1,i1,u1,o1,g1,e1x⟩:=(dC b).w.aM;obtain⟨s2,l2,r2,c2,i2,u2,o2,g2,e2x⟩:=(dC c).w.aM;simp only[e0x,e1x,e2x]at*;clear hK tv e0 hv hx hy hz e0x e1x e2x;refine Ca.bO (n:=K+500) ?_;rw[ak rfl (k35:E1.fn _=_) rfl];unfold wD bz at*;generalize LK .i64 []=l0 at*;simp only[show LK .i64 [a,b,c]=[.v (.int .i64 a),.v (.int .i64 b),.v (.int .i64 c)] from rfl]at*;simp (maxSteps:=500000) -implicitDefEqProofs[aC,f35,a0,b0,p0,b1,p1,b2,p2,most,Np,wr2,wr3,ae.view]
end Fi.S
