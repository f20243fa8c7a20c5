import Derived.Test.YtckkhcnfdmlabaaGreatDoorCO
set_option linter.unusedVariables false
set_option linter.unusedSimpArgs false
noncomputable section
namespace Fi.S
open Go Fi
set_option maxHeartbeats 1000000
theorem Qk (a b:iM):jI a b=jI b a:=by simp[jI,Int.add_comm]
theorem Ql {S:Nat}(hS:1<=S){a b:List bz}(ha:PV S a)(hb:PV S b):jw a b=jw b a :=
 PV.ext (pF hS hS ha hb) (pF hS hS hb ha) (fun e=>by rw[xG,xG];grind)
theorem Vb {S:Nat}(hS:1<=S){a:List bz}(ha:PV S a):jw a []=a :=
 PV.ext (pF hS hS ha (PV.nil S)) ha (fun e=>by rw[xG];simp only[tot];grind)
def cv (a:List bz)(f:iM->Rat)(e:iM):Rat:=match a with
 | []=>0
 | p::r=>p.2*f (e.1-p.1.1,e.2.1-p.1.2.1,e.2.2-p.1.2.2)+cv r f e
def acP (e a:iM):iM:=(e.1-a.1,e.2.1-a.2.1,e.2.2-a.2.2)
theorem Oh (a b e:iM):jI a b=e↔b=acP e a:=by
 obtain⟨a1,a2,a3⟩:=a;obtain⟨b1,b2,b3⟩:=b;obtain⟨e1,e2,e3⟩:=e;simp only[jI,acP,Prod.mk.injEq];omega
theorem FR (p:bz)(e:iM):∀ b:List bz,tot (dG p b) e=p.2*tot b (acP e p.1)
 | []=>by simp only[dG,List.map_nil,tot];grind
 | q::r=>by
  have ih:=FR p e r;have h1:dG p (q::r)=(jI p.1 q.1,p.2*q.2)::dG p r:=rfl;obtain⟨qe,y⟩:=q;rw[h1];simp only[tot,ih]
  by_cases h:jI p.1 qe=e
  ·rw[if_pos h,if_pos ((Oh _ _ _).1 h)];grind
  ·rw[if_neg h,if_neg (fun h2=>h ((Oh _ _ _).2 h2))];grind
theorem uI (b:List bz)(e:iM):∀ a:List bz,tot (di a b) e=cv a (tot b) e
 | []=>rfl
 | p::a=>by
  have h1:di (p::a) b=dG p b++di a b:=by simp[di]
  rw[h1,jv,uI b e a,FR];rfl
theorem Dr (l:List bz)(e:iM):tot (l.filter fun p=>bV p.1) e=if bV e=true then tot l e else 0:=by
 induction l with
 | nil=>simp[tot]
 | cons p r ih =>
  obtain⟨a,y⟩:=p
  by_cases h:bV a=true
  ·rw[List.filter_cons_of_pos (p:=fun p:bz=>bV p.1) h];simp only[tot,ih]
   by_cases h2:a=e
   ·subst h2;simp[h]
   ·simp only[if_neg h2];split<;>grind
  ·rw[List.filter_cons_of_neg (p:=fun p:bz=>bV p.1) h,ih];simp only[tot]
   by_cases h2:a=e
   ·subst h2;simp[h]
   ·simp only[if_neg h2];split<;>grind
theorem Y_ (a b:List bz)(e:iM):tot (lH a b) e=if bV e=true then cv a (tot b) e else 0:=by
 rw[xJ,<-mG,Dr,uI]
theorem vB (e:iM):∀ a b:List bz,tot (di a b) e=tot (di b a) e:=by
 have ah2:∀ a:List bz,di a []=[]:=fun a=>by
  induction a with
  | nil=>rfl
  | cons p r ih =>
   have h1:di (p::r) []=dG p []++di r []:=by simp[di]
   rw[h1,ih];rfl
 have afv:∀ (q:bz) (b a:List bz),tot (di a (q::b)) e=tot (dG q a) e+tot (di a b) e:=by
  intro q b a
  induction a with
  | nil=>simp only[di,dG,List.flatMap_nil,List.map_nil,tot];grind
  | cons p r ih =>
   have h1:di (p::r) (q::b)=dG p (q::b)++di r (q::b):=by simp[di]
   have h2:di (p::r) b=dG p b++di r b:=by simp[di]
   have h3:dG p (q::b)=(jI p.1 q.1,p.2*q.2)::dG p b:=rfl;have h4:dG q (p::r)=(jI q.1 p.1,q.2*p.2)::dG q r:=rfl;rw[h1,h2,jv,jv,h3,h4,ih];simp only[tot,Qk q.1 p.1];grind
 intro a
 induction a with
 | nil=>intro b;rw[ah2];rfl
 | cons p r ih =>
  intro b;have h1:di (p::r) b=dG p b++di r b:=by simp[di]
  rw[h1,jv,afv,ih]
theorem Qm {S:Nat}(hS:1<=S){a b:List bz}(ha:PV S a)(hb:PV S b):lH a b=lH b a :=
 PV.ext (uG hS ha hb) (uG hS hb ha) (fun e=>by
  rw[xJ,xJ,<-mG,<-mG,Dr,Dr,vB])
theorem Vd {S:Nat}(hS:1<=S){a:List bz}(ha:PV S a)(h1:PV S (df 1)):lH a (df 1)=a:=by
 refine PV.ext (uG hS ha h1) ha (fun e => ?_);have hc:df 1=[((0,0,0),1)]:=if_neg (by decide);rw[Y_,<-uI,vB,hc,uI];have h2:cv [((0,0,0),(1:Rat))] (tot a) e=tot a e:=by
  simp only[cv];have h3:((e.1-0,e.2.1-0,e.2.2-0):iM)=e:=by
   obtain⟨x,y,z⟩:=e;simp
  rw[h3];grind
 rw[h2];split
 ·rfl
 ·rename_i hf;exact(mE fun p hp hpe=>hf (by rw[<-hpe];exact ha.fits p hp)).symm
theorem Dt (x:BitVec 64):IntKind.wrap .u64 (x.toNat:Int)=(x.toNat:Int):=by
 have h:=x.isLt;rw[<-b_];exact wrap_u64 (by omega)
theorem Mt (u v:Int):IB .u64 u v=((BitVec.ofInt 64 u ||| BitVec.ofInt 64 v).toNat:Int):=by
 rw[yX];exact Dt _
theorem BA (u v:Int):rX .u64 u v=((BitVec.ofInt 64 u &&& BitVec.ofInt 64 v).toNat:Int):=by
 rw[Bj];exact Dt _
theorem Ve (x:BitVec 64):BitVec.ofInt 64 (x.toNat:Int)=x:=by simp
theorem aaM {u:Int}(h:AY u):((BitVec.ofInt 64 u).toNat:Int)=u:=by
 unfold AY at h;rw[BitVec.toNat_ofInt];omega
theorem or_comm (u v:Int):IB .u64 u v=IB .u64 v u:=by rw[Mt,Mt,BitVec.or_comm]
theorem and_comm (u v:Int):rX .u64 u v=rX .u64 v u:=by rw[BA,BA,BitVec.and_comm]
theorem and_assoc (u v w:Int):rX .u64 (rX .u64 u v) w=rX .u64 u (rX .u64 v w):=by
 simp only[BA,Ve,BitVec.and_assoc]
theorem or_zero {u:Int}(h:AY u):IB .u64 u 0=u:=by
 rw[Mt];have h0:BitVec.ofInt 64 0=0#64:=rfl;rw[h0,BitVec.or_zero,aaM h]
theorem and_ones {u:Int}(h:AY u):rX .u64 u 18446744073709551615=u:=by
 rw[BA];have h0:BitVec.ofInt 64 18446744073709551615=BitVec.allOnes 64:=by decide
 rw[h0,BitVec.and_allOnes,aaM h]
section
theorem RS {S M:Nat}{x:Sv}(h:x.of 1 S M):∃ q,x=.q q/\qz q<=S:=by
 cases x with
 | q x=>exact⟨x,rfl,h.2⟩
 | c i n=>exact absurd h.1 (by decide)
 | s u=>exact absurd h.1 (by decide)
 | p a=>exact absurd h.1 (by decide)
theorem RU {S M:Nat}{x:Sv}(h:x.of 2 S M):∃ i n,x=.c i n/\0<=n/\n<=1099511627776/\(i=true->n=0):=by
 cases x with
 | c i n=>exact⟨i,n,rfl,h.2⟩
 | q x=>rcases h.1 with h | h;exact absurd h (by decide);exact absurd h.1 (by decide)
 | s u=>exact absurd h.1 (by decide)
 | p a=>exact absurd h.1 (by decide)
theorem RV {S M:Nat}{x:Sv}(h:x.of 3 S M):∃ q,x=.q q/\0<=q/\q<=1/\qz q<=S:=by
 cases x with
 | q x =>
  rcases h.1 with h1|h1
  ·exact absurd h1 (by decide)
  ·exact⟨x,rfl,h1.2.1,h1.2.2,h.2⟩
 | c i n=>exact absurd h.1 (by decide)
 | s u=>exact absurd h.1 (by decide)
 | p a=>exact absurd h.1 (by decide)
theorem RX {S M:Nat}{x:Sv}(h:x.of 4 S M):∃ u,x=.s u/\AY u:=by
 cases x with
 | s u=>exact⟨u,rfl,h.2⟩
 | q x=>rcases h.1 with h | h;exact absurd h (by decide);exact absurd h.1 (by decide)
 | c i n=>exact absurd h.1 (by decide)
 | p a=>exact absurd h.1 (by decide)
theorem RY {S M:Nat}{x:Sv}(h:x.of 5 S M):∃ a,x=.p a/\PV S a/\a.length<=M:=by
 cases x with
 | p a=>exact⟨a,rfl,h.2⟩
 | q x=>rcases h.1 with h | h;exact absurd h (by decide);exact absurd h.1 (by decide)
 | c i n=>exact absurd h.1 (by decide)
 | s u=>exact absurd h.1 (by decide)
def uV (k:Int):Sv:=if k=2 then .c false 0 else if k=4 then .s 18446744073709551615 else if k=5 then .p (df 1) else .q 1
theorem Za {k:Int}(hk:single k=true)(S M:Nat)(hS:1<=S)(hM:1<=M):(uV k).of k S M:=by
 rcases a_ hk with rfl|rfl|rfl|rfl|rfl
 ·exact⟨.inl rfl,Nat.le_trans y_ hS⟩
 ·exact⟨rfl,by decide,by decide,fun _=>rfl⟩
 ·exact⟨.inr ⟨rfl,by decide,by decide⟩,Nat.le_trans y_ hS⟩
 ·exact⟨rfl,by decide,by decide⟩
 ·exact⟨rfl,kI (Nat.le_trans y_ hS),Nat.le_trans (zo 1) hM⟩
theorem pl1 (x y:Rat):eu 1 (.q x) (.q y)=.q (x+y):=rfl
theorem pl3 (x y:Rat):eu 3 (.q x) (.q y)=.q (if x<y then y else x):=by
 show(if x<y then Sv.q y else .q x)=_;split<;>rfl
theorem pl2 (i j:Bool)(n m:Int):eu 2 (.c i n) (.c j m)=if vz j m i n then .c j m else .c i n:=rfl
theorem pl4 (u v:Int):eu 4 (.s u) (.s v)=.s (IB .u64 u v):=rfl
theorem pl5 (a b:List bz):eu 5 (.p a) (.p b)=.p (jw a b):=rfl
theorem ti1 (x y:Rat):eB (.q x) (.q y)=.q (x*y):=rfl
theorem ti2 (i j:Bool)(n m:Int):eB (.c i n) (.c j m)=if i||(j||decide (1099511627776<n+m)) then .c true 0 else .c false (n+m):=rfl
theorem ti4 (u v:Int):eB (.s u) (.s v)=.s (rX .u64 u v):=rfl
theorem ti5 (a b:List bz):eB (.p a) (.p b)=.p (lH a b):=rfl
section laws
variable {k:Int} {S M:Nat} {x y z:Sv}
theorem Qn (hk:single k=true)(hS:1<=S)(hx:x.of k S M)(hy:y.of k S M):eu k x y=eu k y x:=by
 rcases a_ hk with rfl|rfl|rfl|rfl|rfl
 ·obtain⟨a,rfl,_⟩:=RS hx;obtain⟨b,rfl,_⟩:=RS hy;rw[pl1,pl1,Rat.add_comm]
 ·obtain⟨i,n,rfl,h1,h2,h3⟩:=RU hx;obtain⟨j,m,rfl,g1,g2,g3⟩:=RU hy;rw[pl2,pl2];unfold vz;cases i<;>cases j<;>simp at*<;>(repeat' split)<;>simp_all<;>omega
 ·obtain⟨a,rfl,_⟩:=RV hx;obtain⟨b,rfl,_⟩:=RV hy;rw[pl3,pl3]
  congr 1
  split<;>split<;>grind
 ·obtain⟨u,rfl,_⟩:=RX hx;obtain⟨v,rfl,_⟩:=RX hy;rw[pl4,pl4,or_comm]
 ·obtain⟨a,rfl,ha,_⟩:=RY hx;obtain⟨b,rfl,hb,_⟩:=RY hy;rw[pl5,pl5,Ql hS ha hb]
theorem Mv (hk:single k=true)(hS:1<=S)(hx:x.of k S M)(hy:y.of k S M):eB x y=eB y x:=by
 rcases a_ hk with rfl|rfl|rfl|rfl|rfl
 ·obtain⟨a,rfl,_⟩:=RS hx;obtain⟨b,rfl,_⟩:=RS hy;rw[ti1,ti1,Rat.mul_comm]
 ·obtain⟨i,n,rfl,h1,h2,h3⟩:=RU hx;obtain⟨j,m,rfl,g1,g2,g3⟩:=RU hy;rw[ti2,ti2,Int.add_comm m n];cases i<;>cases j<;>rfl
 ·obtain⟨a,rfl,_⟩:=RV hx;obtain⟨b,rfl,_⟩:=RV hy;rw[ti1,ti1,Rat.mul_comm]
 ·obtain⟨u,rfl,_⟩:=RX hx;obtain⟨v,rfl,_⟩:=RX hy;rw[ti4,ti4,and_comm]
 ·obtain⟨a,rfl,ha,_⟩:=RY hx;obtain⟨b,rfl,hb,_⟩:=RY hy;rw[ti5,ti5,Qm hS ha hb]
theorem Qo (hk:single k=true)(hS:1<=S)(hx:x.of k S M):eu k x (eP k)=x:=by
 rcases a_ hk with rfl|rfl|rfl|rfl|rfl
 ·obtain⟨a,rfl,_⟩:=RS hx;show Sv.q (a+0)=_;rw[Rat.add_zero]
 ·obtain⟨i,n,rfl,h1,h2,h3⟩:=RU hx;show(if vz true 0 i n then Sv.c true 0 else .c i n)=_;rfl
 ·obtain⟨a,rfl,a0,_⟩:=RV hx;show eu 3 (.q a) (.q 0)=_;rw[pl3,if_neg (by grind)]
 ·obtain⟨u,rfl,hu⟩:=RX hx;show Sv.s (IB .u64 u 0)=_;rw[or_zero hu]
 ·obtain⟨a,rfl,ha,_⟩:=RY hx;show Sv.p (jw a [])=_;rw[Vb hS ha]
theorem Qp (hk:single k=true)(hS:1<=S)(hx:x.of k S M):eB x (uV k)=x:=by
 rcases a_ hk with rfl|rfl|rfl|rfl|rfl
 ·obtain⟨a,rfl,_⟩:=RS hx;show Sv.q (a*1)=_;rw[Rat.mul_one]
 ·obtain⟨i,n,rfl,h1,h2,h3⟩:=RU hx;show(if i||(false||decide (1099511627776<n+0)) then Sv.c true 0 else .c false (n+0))=_;cases i
  ·have:¬ 1099511627776<n+0:=by omega
   simp[this];omega
  ·rw[h3 rfl];rfl
 ·obtain⟨a,rfl,_⟩:=RV hx;show Sv.q (a*1)=_;rw[Rat.mul_one]
 ·obtain⟨u,rfl,hu⟩:=RX hx;show Sv.s (rX .u64 u 18446744073709551615)=_;rw[and_ones hu]
 ·obtain⟨a,rfl,ha,_⟩:=RY hx;show Sv.p (lH a (df 1))=_;rw[Vd hS ha (kI (Nat.le_trans y_ hS))]
end laws
end
set_option maxHeartbeats 8000000
section
def gW (kk:Int)(ps:List Int):List Int:=if kk=6 then ps else [kk]
def bA (kk:Int)(xs:List Sv):W:=if kk=6 then fI (xs.map Sv.w) else(xs.headD (.q 0)).w
noncomputable def iV (xs ys:List Sv):List Sv:=(xs.zip ys).map fun p=>eB p.1 p.2
theorem bI {kk:Int}{ps:List Int}(h:aH kk ps=true):∀ k ∈ gW kk ps,single k=true:=by
 unfold gW;split
 ·rename_i h6;subst h6;exact(rg6 h).2.2
 ·rename_i h6;unfold aH at h;rw[if_pos h6]at h;simp only[Bool.and_eq_true]at h;intro k hk;rw[List.mem_singleton]at hk;subst hk;exact h.1
theorem uJ {xs ys:List Sv}{i:Nat}{z:Sv}(h:(iV xs ys)[i]?=some z):∃ x y,xs[i]?=some x/\ys[i]?=some y/\z=eB x y:=by
 unfold iV at h;rw[List.getElem?_map,Option.map_eq_some_iff]at h;obtain⟨⟨x,y⟩,h1,rfl⟩:=h;rw[List.getElem?_zip_eq_some]at h1;exact⟨x,y,h1.1,h1.2,rfl⟩
theorem jS.mono {S T M M':Nat}{ks:List Int}{xs:List Sv}(h:jS S M ks xs)(hST:S<=T)(hM:M<=M'):jS T M' ks xs:=⟨h.1,fun i k x hk hx=>(h.2 i k x hk hx).mono hST hM⟩
theorem xM {ks:List Int}{l m:List Sv}(hl:l.length=ks.length)(hm:m.length=ks.length)(h:∀ (i:Nat) (k:Int) (x y:Sv),ks[i]?=some k->l[i]?=some x->m[i]?=some y->x=y):l=m:=by
 refine List.ext_getElem (by omega) (fun i h1 h2 => ?_);exact h i (ks[i]'(by omega)) _ _ (List.getElem?_eq_getElem (by omega)) (List.getElem?_eq_getElem h1) (List.getElem?_eq_getElem h2)
theorem jT {α:Type}{l:List α}{i:Nat}{x y:α}(h1:l[i]?=some x)(h2:l[i]?=some y):x=y:=by
 rw[h1]at h2;exact Option.some.inj h2
section laws
variable {S M:Nat} {ks:List Int} {xs ys zs:List Sv}
theorem zt (hx:xs.length=ks.length)(hy:ys.length=ks.length):(gV ks xs ys).length=ks.length:=by simp[gV,hx,hy]
theorem qJ (hx:xs.length=ks.length)(hy:ys.length=ks.length):(iV xs ys).length=ks.length:=by simp[iV,hx,hy]
theorem Mw (hS:1<=S)(hs:∀ k ∈ ks,single k=true)(hx:jS S M ks xs)(hy:jS S M ks ys):gV ks xs ys=gV ks ys xs:=by
 refine xM (zt hx.1 hy.1) (zt hy.1 hx.1) (fun i k u v hk hu hv => ?_);obtain⟨k1,x,y,a1,a2,a3,rfl⟩:=tF hu;obtain⟨k2,y',x',b1,b2,b3,rfl⟩:=tF hv;obtain rfl:=jT hk a1;obtain rfl:=jT hk b1;obtain rfl:=jT a2 b3;obtain rfl:=jT a3 b2;exact Qn (hs k (List.mem_of_getElem? hk)) hS (hx.2 i k _ hk a2) (hy.2 i k _ hk a3)
theorem Ak (hS:1<=S)(hs:∀ k ∈ ks,single k=true)(hx:jS S M ks xs)(hy:jS S M ks ys):iV xs ys=iV ys xs:=by
 refine xM (qJ hx.1 hy.1) (qJ hy.1 hx.1) (fun i k u v hk hu hv => ?_);obtain⟨x,y,a2,a3,rfl⟩:=uJ hu;obtain⟨y',x',b2,b3,rfl⟩:=uJ hv;obtain rfl:=jT a2 b3;obtain rfl:=jT a3 b2;exact Mv (hs k (List.mem_of_getElem? hk)) hS (hx.2 i k _ hk a2) (hy.2 i k _ hk a3)
theorem qK {f:Int->Sv}{i:Nat}{k:Int}{z:Sv}(hk:ks[i]?=some k)(h:(ks.map f)[i]?=some z):z=f k:=by
 rw[List.getElem?_map,hk]at h;exact(Option.some.inj h).symm
theorem qL (hS:1<=S)(hs:∀ k ∈ ks,single k=true)(hx:jS S M ks xs):gV ks xs (ks.map eP)=xs:=by
 refine xM (zt hx.1 (by simp)) hx.1 (fun i k u v hk hu hv => ?_);obtain⟨k1,x,y,a1,a2,a3,rfl⟩:=tF hu;obtain rfl:=jT hk a1;obtain rfl:=jT a2 hv;rw[qK hk a3];exact Qo (hs k (List.mem_of_getElem? hk)) hS (hx.2 i k _ hk a2)
theorem Du (hS:1<=S)(hs:∀ k ∈ ks,single k=true)(hx:jS S M ks xs):iV xs (ks.map uV)=xs:=by
 refine xM (qJ hx.1 (by simp)) hx.1 (fun i k u v hk hu hv => ?_);obtain⟨x,y,a2,a3,rfl⟩:=uJ hu;obtain rfl:=jT a2 hv;rw[qK hk a3];exact Qp (hs k (List.mem_of_getElem? hk)) hS (hx.2 i k _ hk a2)
theorem Al (hs:∀ k ∈ ks,single k=true)(hx:jS S M ks xs):iV xs (ks.map eP)=ks.map eP:=by
 refine xM (qJ hx.1 (by simp)) (by simp) (fun i k u v hk hu hv => ?_);obtain⟨x,y,a2,a3,rfl⟩:=uJ hu;rw[qK hk a3,qK hk hv];exact Mk (hs k (List.mem_of_getElem? hk)) (hx.2 i k _ hk a2)
theorem mY (hS:1<=S)(hs:∀ k ∈ ks,single k=true):jS S M ks (ks.map eP):=⟨by simp,fun i k x hk hx=>by rw[qK hk hx];exact U0 (hs k (List.mem_of_getElem? hk)) S M hS⟩
theorem JL (hS:1<=S)(hM:1<=M)(hs:∀ k ∈ ks,single k=true):jS S M ks (ks.map uV):=⟨by simp,fun i k x hk hx=>by rw[qK hk hx];exact Za (hs k (List.mem_of_getElem? hk)) S M hS hM⟩
end laws
section ring
variable {kk:Int} {ps:List Int} {S M:Nat} {xs ys:List Sv}
theorem tH {k:Int}(h:jS S M [k] xs):∃ x,xs=[x]/\x.of k S M:=by
 match xs,h with
 | [x],h=>exact⟨x,rfl,h.2 0 k x rfl rfl⟩
 | [],h=>simp[jS]at h
 | _::_::_,h=>simp[jS]at h
theorem pJ (h:aH kk ps=true)(h6:kk≠6):ps=[]/\single kk=true:=by
 unfold aH at h;rw[if_pos h6]at h;simp only[Bool.and_eq_true,decide_eq_true_eq]at h;exact⟨h.2,h.1⟩
theorem vC (hv:aH kk ps=true)(hS:S<=1000)(h:jS S M (gW kk ps) xs):(bA kk xs).OK:=by
 unfold bA
 by_cases h6:kk=6
 ·subst h6;rw[if_pos rfl];unfold gW at h;rw[if_pos rfl]at h;exact Og hS (rg6 hv).1 h
 ·rw[if_neg h6];unfold gW at h;rw[if_neg h6]at h;obtain⟨x,rfl,hx⟩:=tH h;exact U4 hx hS
theorem tJ (hv:aH kk ps=true)(h:jS S M (gW kk ps) xs):bO kk ps (bA kk xs)=true:=by
 unfold bA
 by_cases h6:kk=6
 ·subst h6;rw[if_pos rfl];unfold gW at h;rw[if_pos rfl]at h;exact Dq hv h
 ·rw[if_neg h6];unfold gW at h;rw[if_neg h6]at h;obtain⟨x,rfl,hx⟩:=tH h;unfold bO;rw[hv,if_pos h6];exact U3 hx
theorem Hd (hv:aH kk ps=true):ps.length<=1000000:=by
 by_cases h6:kk=6
 ·subst h6;have:=(rg6 hv).1;omega
 ·rw[(pJ hv h6).1];simp
theorem JM (hv:aH kk ps=true)(hS:S<=1000)(h:jS S M (gW kk ps) xs):Ca E1 41 [.d (aP kk ps),.d (bA kk xs).d] (.d (bA kk xs).d,none) :=
 G_ (Hd hv) (vC hv hS h) (tJ hv h)
theorem BB (hv:aH kk ps=true)(hS:S<=1000)(hM:(M+M)*(S+1)<=50000)(hx:jS S M (gW kk ps) xs)(hy:jS S M (gW kk ps) ys) :
  Ca E1 14 [.d (aP kk ps),.d (bA kk xs).d,.d (bA kk ys).d] (.d (bA kk (gV (gW kk ps) xs ys)).d,none):=by
 have vx:=JM hv hS hx;have vy:=JM hv hS hy;unfold bA gW at*
 by_cases h6:kk=6
 ·subst h6;simp only[if_true]at*;exact Ms hS hM hv _ _ hx hy vx vy
 ·simp only[if_neg h6]at*;obtain⟨rfl,hs⟩:=pJ hv h6;obtain⟨x,rfl,hx'⟩:=tH hx;obtain⟨y,rfl,hy'⟩:=tH hy;exact UY hs _ _ _ _ _ vx vy (JJ hs hS hM hx' hy')
theorem xN (hv:aH kk ps=true)(hS:S<=1000)(h:jS S M (gW kk ps) xs):Ca E1 12 [.d (bA kk xs).d,.d (bA kk xs).d] (.d (.v (.bool true)),none):=by
 have hok:=vC hv hS h;have:=oZ _ hok _ hok;rw[W.Bt]at this;exact Ca.dW this
end ring
end
end Fi.S
noncomputable section
namespace Fi.S
open Go Fi
set_option maxHeartbeats 8000000
set_option maxRecDepth 10000
theorem Vf {k:Int}(hk:single k=true):(uV k).w.d=He k:=by
 have h1:qs 1=false:=by decide
 have h2:qn 1=[1]:=by
  show enc 1=[1]
  exact jD (by omega) (by omega)
 have h3:qd 1=[]:=if_pos rfl;have hc:df 1=[((0,0,0),1)]:=if_neg (by decide);rcases a_ hk with rfl|rfl|rfl|rfl|rfl
 ·simp[uV,He,Sv.w,W.d,W.ds,PD,LD,LL,h1,h2,h3]
 ·simp[uV,He,Sv.w,W.d,W.ds,PD,LD,LL]
 ·simp[uV,He,Sv.w,W.d,W.ds,PD,LD,LL,h1,h2,h3]
 ·simp[uV,He,Sv.w,W.d,W.ds,PD,LD,LL]
 ·simp[uV,He,Sv.w,W.d,W.ds,PD,LD,LL,hc,sW,Mo.d,h1,h2,h3,JN]
theorem acQ {kk:Int}{ps:List Int}(h:aH kk ps=true):(bA kk ((gW kk ps).map uV)).d=FM kk ps:=by
 have hs:=bI h;unfold bA gW FM at*
 by_cases h6:kk=6
 ·subst h6;simp only[if_true]at*;have:W.ds ((ps.map uV).map Sv.w)=ps.map He:=by
   rw[W.eH,List.map_map,List.map_map];exact List.map_congr_left fun x hx=>Vf (hs x hx)
  show D.a [.v (.bool false),.s 1 [],.s 1 [],.v (.int .i64 0),.v (.bool false),.v (.int .u64 0),.s 6 [],.s 8 (W.ds ((ps.map uV).map Sv.w))]=_;rw[this]
 ·simp only[if_neg h6]at*;exact Vf (hs kk (by simp))
theorem Mx (k:Int):(pI k=6/\(vk k=[1,2]\/vk k=[3,4,5]))\/((pI k=1\/pI k=2\/pI k=3\/pI k=4\/pI k=5)/\vk k=[]):=by
 have h1:=Int.emod_nonneg k (show(7:Int)≠0 by omega);have h2:=Int.emod_lt_of_pos k (show(0:Int)<7 by omega);unfold pI vk
 by_cases h5:k % 7=5
 ·left;rw[if_pos (.inl h5),if_pos h5];exact⟨rfl,.inl rfl⟩
 ·by_cases h6:k % 7=6
  ·left;rw[if_pos (.inr h6),if_neg h5,if_pos h6];exact⟨rfl,.inr rfl⟩
  ·right
   rw[if_neg (by rintro(h|h)<;>contradiction),if_neg h5,if_neg h6];exact⟨by omega,rfl⟩
theorem MB (k:Int):aH (pI k) (vk k)=true:=by
 rcases Mx k with ⟨h1,h2|h2⟩|⟨h1|h1|h1|h1|h1,h2⟩<;>rw[h1,h2]<;>decide
theorem Oi {kk:Int}{ps:List Int}(h:aH kk ps=true):Ca E1 27 [.d (aP kk ps)] (.d (bA kk ((gW kk ps).map uV)).d,none)/\Ca E1 20 [.d (aP kk ps)] (.d (bA kk ((gW kk ps).map uV)).d,none):=by
 rw[acQ h];exact Y7 h
theorem zw {kk:Int}{ps:List Int}(h:aH kk ps=true):Ca E1 26 [.d (aP kk ps)] (.d (bA kk ((gW kk ps).map eP)).d,none):=by
 have h1:=U7 h;have e:JK kk ps=bA kk ((gW kk ps).map eP):=by
  unfold JK bA gW
  by_cases h6:kk=6
  ·simp only[if_pos h6,List.map_map];rfl
  ·simp only[if_neg h6];rfl
 rw[e]at h1;exact h1
noncomputable def FT (kk:Int) (ps:List Int) (v:Int):List Sv:=if kk=6 then(List.range ps.length).map fun i=>FP (ps.getD i 0) (ak .i64 (v+i)) else [FP kk v]
theorem Am {k:Int}(hk:single k=true)(v:Int)(hv:jr v):Ca E1 16 [.d (aP k []),.d (.v (.int .i64 v))] (.d (FP k v).w.d,none):=by
 unfold FP;rcases a_ hk with rfl|rfl|rfl|rfl|rfl
 ·exact afr v hv
 ·exact afs v hv
 ·exact acN v hv
 ·exact aft v hv
 ·exact afu v hv
theorem acR (z:Int):jr (ak .i64 z):=by
 have h:=Go.wf_wrap .i64 z;rw[b_];exact wf_i64 h
theorem Qq {kk:Int}{ps:List Int}(h:aH kk ps=true)(v:Int):jS 9 2 (gW kk ps) (FT kk ps v):=by
 have hs:=bI h;unfold FT gW at*
 by_cases h6:kk=6
 ·simp only[if_pos h6]at*;refine⟨by simp,fun i k x hk hx => ?_⟩;have hi:i<ps.length:=(aW hk)
  rw[List.getElem?_map,List.getElem?_range hi]at hx;simp only[Option.map_some,Option.some.injEq]at hx;subst hx;have hg:ps.getD i 0=k:=by rw[List.getD_eq_getElem?_getD,hk];rfl
  rw[hg];exact Od (hs k (List.mem_of_getElem? hk)) _
 ·simp only[if_neg h6]at*;refine⟨rfl,fun i k x hk hx => ?_⟩
  match i with
  | 0 =>
   cases hk;cases hx;exact Od (hs kk (by simp)) v
  | i+1=>cases hk
theorem Vg {kk:Int}{ps:List Int}(h:aH kk ps=true)(v:Int)(hv:jr v):Ca E1 16 [.d (aP kk ps),.d (.v (.int .i64 v))] (.d (bA kk (FT kk ps v)).d,none):=by
 have hs:=bI h;unfold FT bA gW at*
 by_cases h6:kk=6
 ·subst h6;simp only[if_true]at*;refine Va v ps _ (rg6 h).1 (by simp) (fun i k z hk hz => ?_);have hi:i<ps.length:=(aW hk)
  rw[List.getElem?_map,List.getElem?_map,List.getElem?_range hi]at hz;simp only[Option.map_some,Option.some.injEq]at hz;subst hz;have hg:ps.getD i 0=k:=by rw[List.getD_eq_getElem?_getD,hk];rfl
  rw[hg];exact Am (hs k (List.mem_of_getElem? hk)) _ (acR _)
 ·simp only[if_neg h6]at*;obtain⟨rfl,hk⟩:=pJ h h6;exact Am hk v hv
end Fi.S
namespace Fi.S
open Go Fi
set_option maxHeartbeats 8000000
set_option maxRecDepth 10000
theorem Qr {k:Int}{S M:Nat}(hS:S<=1000){x:Sv}(h:x.of k S M):∃ s l1 l2 c b u p,x.w.d=wD s l1 l2 c b u p [] /\
  Ca E1 85 [.d (.a [.v (.bool s),.s 1 l1,.s 1 l2])] (.d (.a [.v (.bool s),.s 1 l1,.s 1 l2]),none)/\Ca E1 86 [.d (.s 6 p)] (.d (.s 6 p),none):=by
 have t0:=Ca.dW (iB 0 (by have:=jP;omega));rw[xB]at t0;obtain⟨_,p0,rfl⟩:=qG (PV.nil S) hS;cases x with
 | q x =>
  have:=h.2;exact⟨_,_,_,_,_,_,_,rfl,Ca.dW (iB x (by omega)),p0⟩
 | c i n=>exact⟨_,_,_,_,_,_,_,rfl,t0,p0⟩
 | s u=>exact⟨_,_,_,_,_,_,_,rfl,t0,p0⟩
 | p l =>
  obtain⟨_,t1,rfl⟩:=qG h.2.1 hS;exact⟨_,_,_,_,_,_,_,UL l,t0,t1⟩
theorem dH (kk:Int)(ps:List Int)(i:Nat)(j:Int)(hj:j=i)(a:Int)(h:ps[i]?=some a):Ca E1 56 [.d (aP kk ps),.d (.v (.int .i64 j))] (.d (aP a []),none):=by
 subst hj;have e1:(LK .i64 ps)[i]?=some (.v (.int .i64 a)):=by simp[LK,h]
 have hl:i<(LK .i64 ps).length:=(aW e1)
 have h0:(0:Int)<=(i:Int):=by omega
 refine Ca.bD (n:=60) ?_;rw[av rfl (k56:E1.fn _=_) rfl];have e2:=idx e1;have e0:LK .i64 []=[]:=rfl;unfold aP;rw[e0];generalize LK .i64 ps=l1 at*;simp -implicitDefEqProofs[f56,e1,e2,hl,h0]
theorem JO:ak .i64 1=1:=wrap_i64 (by omega)
theorem wr2:ak .i64 2=2:=wrap_i64 (by omega)
theorem wr3:ak .i64 3=3:=wrap_i64 (by omega)
theorem dR {k:Int}(hk:single k=true):aH k []=true/\k≠6:=by
 have h6:k≠6:=by
  rintro rfl;exact absurd hk (by decide)
 exact⟨by unfold aH;rw[if_pos h6,hk];rfl,h6⟩
theorem pK {kk:Int}{ps:List Int}{S M:Nat}{xs:List Sv}(hv:aH kk ps=true)(h:jS S M (gW kk ps) xs) :
  (single kk=true/\ps=[]/\∃ x,xs=[x]/\x.of kk S M) \/
  (kk=6/\∃ a b x y,ps=[a,b]/\xs=[x,y]/\single a=true/\single b=true/\x.of a S M/\y.of b S M) \/
  (kk=6/\∃ a b c x y z,ps=[a,b,c]/\xs=[x,y,z]/\single a=true/\single b=true/\single c=true/\x.of a S M/\y.of b S M/\z.of c S M):=by
 have hs:=bI hv
 by_cases h6:kk=6
 ·subst h6;obtain⟨l3,l2,_⟩:=rg6 hv;unfold gW at*;rw[if_pos rfl]at h hs;have hl:=h.1
  match ps,xs,l3,l2,hl with
  | [a,b],[x,y],_,_,_=>exact .inr (.inl ⟨rfl,a,b,x,y,rfl,rfl,hs a (by simp),hs b (by simp),h.2 0 a x rfl rfl,h.2 1 b y rfl rfl⟩)
  | [a,b,c],[x,y,z],_,_,_=>exact .inr (.inr ⟨rfl,a,b,c,x,y,z,rfl,rfl,hs a (by simp),hs b (by simp),hs c (by simp),h.2 0 a x rfl rfl,h.2 1 b y rfl rfl,h.2 2 c z rfl rfl⟩)
 ·obtain⟨rfl,hk⟩:=pJ hv h6;unfold gW at h;rw[if_neg h6]at h;obtain⟨x,rfl,hx⟩:=tH h;exact .inl ⟨hk,rfl,x,rfl,hx⟩
theorem mk_one {k:Int}(hk:single k=true)(x:Sv):bA k [x]=x.w:=if_neg (dR hk).2
theorem Oj {k:Int}(hk:single k=true){S M:Nat}{x:Sv}(h:x.of k S M):jS S M (gW k []) [x]:=by
 unfold gW;rw[if_neg (dR hk).2];exact⟨rfl,fun i k' x' h1 h2=>by
  match i with
  | 0=>cases h1;cases h2;exact h
  | i+1=>cases h1⟩
theorem oO {k:Int}(hk:single k=true){S M:Nat}(hS1:1<=S)(hS:S<=1000){x:Sv}(h:x.of k S M):Ca E1 53 [.d (aP k []),.d x.w.d] (.d x.w.d,none):=by
 have hc:=Ca.dW (o8 k [] x.w (by simp) (U4 h hS));have hm:=tJ (dR hk).1 (Oj hk h);rw[mk_one hk]at hm;rw[hm]at hc;obtain⟨s,l1,l2,c,b,u,p,e,t1,t2⟩:=Qr hS h;rw[e]at hc ⊢;obtain⟨K,hK,a0,a1,a2⟩:=(hc.j (t1.j t2.any)).at 0;clear hc t1 t2 e h hm hK;refine Ca.bD (n:=K+200) ?_;rw[av rfl (k53:E1.fn _=_) rfl];unfold wD aP at*;generalize LK .i64 []=l0 at*;simp -implicitDefEqProofs[aC,f53,a0,a1,a2]
theorem kJ (xs:List Sv):(fI (xs.map Sv.w)).d=wD false [] [] 0 false 0 [] (xs.map fun x=>x.w.d):=by
 show D.a [.v (.bool false),.s 1 [],.s 1 [],.v (.int .i64 0),.v (.bool false),.v (.int .u64 0),.s 6 [],.s 8 (W.ds (xs.map Sv.w))]=_;rw[W.eH,List.map_map];rfl
theorem Dv {ps:List Int}{S M:Nat}{xs:List Sv}(hv:aH 6 ps=true)(hS1:1<=S)(hS:S<=1000)(h:jS S M ps xs) :
  Ca E1 29 [.d (aP 6 ps),.d (wD false [] [] 0 false 0 [] (xs.map fun x=>x.w.d))] (.d (.v (.bool true)),none)/\Ca E1 85 [.d (.a [.v (.bool false),.s 1 [],.s 1 []])] (.d (.a [.v (.bool false),.s 1 [],.s 1 []]),none)/\Ca E1 86 [.d (.s 6 [])] (.d (.s 6 []),none):=by
 have hc:=Ca.dW (o8 6 ps (fI (xs.map Sv.w)) (Hd hv) (Og hS (rg6 hv).1 h));rw[Dq hv h,kJ]at hc;have t0:=Ca.dW (iB 0 (by have:=jP;omega));rw[xB]at t0;obtain⟨_,p0,rfl⟩:=qG (PV.nil S) hS;exact⟨hc,t0,p0⟩
theorem qM {kk:Int}{ps:List Int}{S M:Nat}{xs:List Sv}(hv:aH kk ps=true)(hS1:1<=S)(hS:S<=1000)(h:jS S M (gW kk ps) xs):Ca E1 53 [.d (aP kk ps),.d (bA kk xs).d] (.d (bA kk xs).d,none):=by
 rcases pK hv h with ⟨hk,rfl,x,rfl,hx⟩|⟨rfl,a,b,x,y,rfl,rfl,ha,hb,hx,hy⟩|⟨rfl,a,b,c,x,y,z,rfl,rfl,ha,hb,hc,hx,hy,hz⟩
 ·rw[mk_one hk];exact oO hk hS1 hS hx
 ·obtain⟨f1,f2,f3⟩:=Dv hv hS1 hS h;obtain⟨K,hK,a0,a1,a2,b0,b1,p0,p1⟩:=((f1).j ((f2).j ((f3).j ((oO ha hS1 hS hx).j ((oO hb hS1 hS hy).j ((dH 6 [a,b] 0 0 rfl a rfl).j ((dH 6 [a,b] 1 1 rfl b rfl).any))))))).at 0;have e0:∀ l,bA 6 l=fI (l.map Sv.w):=fun _=>rfl
  rw[e0,kJ];simp only[List.map_cons,List.map_nil]at*;obtain⟨xs,x1,x2,xc,xb,xu,xp,xq,ex⟩:=x.w.aF;obtain⟨ys,y1,y2,yc,yb,yu,yp,yq,ey⟩:=y.w.aF;simp only[ex,ey]at*;clear hK f1 f2 f3 e0 h hv hx hy ex ey;refine Ca.bD (n:=K+500) ?_;rw[av rfl (k53:E1.fn _=_) rfl];unfold wD aP at*;generalize LK .i64 []=l0 at*;simp only[show LK .i64 [a,b]=[.v (.int .i64 a),.v (.int .i64 b)] from rfl]at*;simp (maxSteps:=500000) -implicitDefEqProofs[aC,f53,a0,a1,a2,b0,b1,p0,p1,most,JO,wr2,wr3,ae.view]
 ·obtain⟨f1,f2,f3⟩:=Dv hv hS1 hS h;obtain⟨K,hK,a0,a1,a2,b0,b1,b2,p0,p1,p2⟩:=((f1).j ((f2).j ((f3).j ((oO ha hS1 hS hx).j ((oO hb hS1 hS hy).j ((oO hc hS1 hS hz).j ((dH 6 [a,b,c] 0 0 rfl a rfl).j ((dH 6 [a,b,c] 1 1 rfl b rfl).j ((dH 6 [a,b,c] 2 2 rfl c rfl).any))))))))).at 0;have e0:∀ l,bA 6 l=fI (l.map Sv.w):=fun _=>rfl
  rw[e0,kJ];simp only[List.map_cons,List.map_nil]at*;obtain⟨xs,x1,x2,xc,xb,xu,xp,xq,ex⟩:=x.w.aF;obtain⟨ys,y1,y2,yc,yb,yu,yp,yq,ey⟩:=y.w.aF;obtain⟨zs,z1,z2,zc,zb,zu,zp,zq,ez⟩:=z.w.aF;simp only[ex,ey,ez]at*;clear hK f1 f2 f3 e0 h hv hx hy hz ex ey ez;refine Ca.bD (n:=K+500) ?_;rw[av rfl (k53:E1.fn _=_) rfl];unfold wD aP at*;generalize LK .i64 []=l0 at*;simp only[show LK .i64 [a,b,c]=[.v (.int .i64 a),.v (.int .i64 b),.v (.int .i64 c)] from rfl]at*;simp (maxSteps:=500000) -implicitDefEqProofs[aC,f53,a0,a1,a2,b0,b1,b2,p0,p1,p2,most,JO,wr2,wr3,ae.view]
theorem RZ (x:Rat):∃ s n d,(Sv.q x).w.d=wD s n d 0 false 0 [] []/\qD x=.a [.v (.bool s),.s 1 n,.s 1 d]:=⟨_,_,_,rfl,rfl⟩
theorem Ol {k:Int}(hk:single k=true){S M:Nat}(hS1:1<=S)(hS:S<=1000){x y:Sv}(hx:x.of k S M)(hy:y.of k S M){vw ww:W}(tx:Ca E1 53 [.d (aP k []),.d vw.d] (.d x.w.d,none))(ty:Ca E1 53 [.d (aP k []),.d ww.d] (.d y.w.d,none)) :
  Ca E1 19 [.d (aP k []),.d vw.d,.d ww.d] (.d (eu k x y).w.d,none):=by
 have tv:=Ca.dW (Ca.bD (dB 0 k []));rw[(dR hk).1]at tv;obtain⟨vs,Y2,Y3,vc,vb,vu,vp,Y4,ev⟩:=vw.aF;obtain⟨ws,wl1,wl2,wc,wb,wu,wp,wps,ew⟩:=ww.aF;rw[ev]at tx ⊢;rw[ew]at ty ⊢;clear ev ew;rcases a_ hk with rfl|rfl|rfl|rfl|rfl
 ·obtain⟨a,rfl,ha⟩:=RS hx;obtain⟨b,rfl,hb⟩:=RS hy;obtain⟨K,hK,a0,a1,a2,a3⟩:=((tv).j ((tx).j ((ty).j ((Ca.dW (Bo a b (by omega) (by omega))).any)))).at 0;obtain⟨s1,n1,d1,e1,g1⟩:=RZ a;obtain⟨s2,n2,d2,e2,g2⟩:=RZ b;rw[pl1];obtain⟨s3,n3,d3,e3,g3⟩:=RZ (a+b);rw[g1,g2,g3]at a3;rw[e1]at a1;rw[e2]at a2;rw[e3];clear hK tv tx ty;refine Ca.bD (n:=K+300) ?_;rw[av rfl (k19:E1.fn _=_) rfl]
  (try unfold wD at*)
  unfold aP at*;generalize LK .i64 []=l0 at*;simp -implicitDefEqProofs[aC,f19,a0,a1,a2,a3]
 ·obtain⟨i,n,rfl,hn0,hn1,hin⟩:=RU hx;obtain⟨j,m,rfl,hm0,hm1,hjm⟩:=RU hy;obtain⟨K,hK,a0,a1,a2⟩:=((tv).j ((tx).j ((ty).any))).at 0;rw[pl2];have hc1:∀ n,(Sv.c i n).w.d=wD false [] [] n i 0 [] []:=fun n=>rfl
  have hc2:∀ n,(Sv.c j n).w.d=wD false [] [] n j 0 [] []:=fun n=>rfl
  unfold vz;rw[hc1]at a1;rw[hc2]at a2
  by_cases h:m<n<;>cases i<;>cases j<;>(try obtain rfl:=hin rfl)<;>(try obtain rfl:=hjm rfl)<;>(try exact absurd h (by omega))<;>simp only[h,Bool.not_true,Bool.not_false,Bool.false_and,Bool.true_and,Bool.and_true,Bool.or_true,Bool.true_or,Bool.false_or,decide_true,decide_false,if_true,if_false,Bool.false_eq_true,hc1,hc2] <;>
  (clear hK tv tx ty;refine Ca.bD (n:=K+300) ?_;rw[av rfl (k19:E1.fn _=_) rfl];(try rw[hc1]);(try rw[hc2]);unfold wD aP at*;generalize LK .i64 []=l0 at*;simp -implicitDefEqProofs[f19,a0,a1,a2,h])
 ·obtain⟨a,rfl,_,_,ha⟩:=RV hx;obtain⟨b,rfl,_,_,hb⟩:=RV hy;obtain⟨K,hK,a0,a1,a2,a3⟩:=((tv).j ((tx).j ((ty).j ((Ca.dW (Jf a b (by omega) (by omega))).any)))).at 0;obtain⟨s1,n1,d1,e1,g1⟩:=RZ a;obtain⟨s2,n2,d2,e2,g2⟩:=RZ b;have ep:=pl3 a b
  by_cases hab:a<b
  ·rw[ep,if_pos hab];rw[decide_eq_true hab,g1,g2]at a3;simp only[e1,e2]at a1 a2 ⊢;clear hK tv tx ty;refine Ca.bD (n:=K+300) ?_;rw[av rfl (k19:E1.fn _=_) rfl]
   (try unfold wD at*)
   unfold aP at*;generalize LK .i64 []=l0 at*;simp -implicitDefEqProofs[aC,f19,a0,a1,a2,a3]
  ·rw[ep,if_neg hab];rw[decide_eq_false hab,g1,g2]at a3;simp only[e1,e2]at a1 a2 ⊢;clear hK tv tx ty;refine Ca.bD (n:=K+300) ?_;rw[av rfl (k19:E1.fn _=_) rfl]
   (try unfold wD at*)
   unfold aP at*;generalize LK .i64 []=l0 at*;simp -implicitDefEqProofs[aC,f19,a0,a1,a2,a3]
 ·obtain⟨u,rfl,hu⟩:=RX hx;obtain⟨v,rfl,hv⟩:=RX hy;obtain⟨K,hK,a0,a1,a2⟩:=((tv).j ((tx).j ((ty).any))).at 0;rw[pl4];have hc1:∀ u,(Sv.s u).w.d=wD false [] [] 0 false u [] []:=fun u=>rfl
  rw[hc1]at a1;rw[hc1]at a2;rw[hc1];clear hK tv tx ty;refine Ca.bD (n:=K+300) ?_;rw[av rfl (k19:E1.fn _=_) rfl]
  (try unfold wD at*)
  unfold aP at*;generalize LK .i64 []=l0 at*;simp -implicitDefEqProofs[aC,f19,a0,a1,a2]
 ·obtain⟨a,rfl,ha,la⟩:=RY hx;obtain⟨b,rfl,hb,lb⟩:=RY hy;obtain⟨K,hK,a0,a1,a2,a3⟩:=((tv).j ((tx).j ((ty).j ((JB hS1 hS ha hb).any)))).at 0;rw[pl5];simp only[UL]at a1 a2 ⊢;generalize jw a b=c at*;unfold aV at*;generalize (a.map fun p=>qC p.1 p.2)=x1,(b.map fun p=>qC p.1 p.2)=x2,(c.map fun p=>qC p.1 p.2)=x3 at*;clear hK tv tx ty;refine Ca.bD (n:=K+300) ?_;rw[av rfl (k19:E1.fn _=_) rfl]
  (try unfold wD at*)
  unfold aP at*;generalize LK .i64 []=l0 at*;simp -implicitDefEqProofs[aC,f19,a0,a1,a2,a3]
theorem xO {k:Int}(hk:single k=true){S M:Nat}(hS1:1<=S)(hS:S<=1000){x y:Sv}(hx:x.of k S M)(hy:y.of k S M) :
  Ca E1 19 [.d (aP k []),.d x.w.d,.d y.w.d] (.d (eu k x y).w.d,none):=Ol hk hS1 hS hx hy (oO hk hS1 hS hx) (oO hk hS1 hS hy)
theorem Vh {kk:Int}{ps:List Int}{S M:Nat}{xs ys:List Sv}(hv:aH kk ps=true)(hS1:1<=S)(hS:S<=1000)(hx:jS S M (gW kk ps) xs)(hy:jS S M (gW kk ps) ys){vw ww:W}(tx:Ca E1 53 [.d (aP kk ps),.d vw.d] (.d (bA kk xs).d,none))(ty:Ca E1 53 [.d (aP kk ps),.d ww.d] (.d (bA kk ys).d,none)) :
  Ca E1 19 [.d (aP kk ps),.d vw.d,.d ww.d] (.d (bA kk (gV (gW kk ps) xs ys)).d,none):=by
 have tv:=Ca.dW (Ca.bD (dB 0 kk ps));rw[hv]at tv;rcases pK hv hx with ⟨hk,rfl,x,rfl,h1⟩|⟨rfl,a,b,x1,x2,rfl,rfl,ha,hb,h1,h2⟩|⟨rfl,a,b,c,x1,x2,x3,rfl,rfl,ha,hb,hc,h1,h2,h3⟩
 ·have h6:=(dR hk).2;rcases pK hv hy with ⟨_,_,y,rfl,g1⟩|⟨h,_⟩|⟨h,_⟩
  ·unfold gW;rw[if_neg h6];rw[mk_one hk]at tx ty;show Ca E1 19 _ (.d (bA kk [eu kk x y]).d,none);rw[mk_one hk];exact Ol hk hS1 hS h1 g1 tx ty
  ·exact absurd h h6
  ·exact absurd h h6
 ·obtain⟨y1,y2,rfl,g1,g2⟩:∃ y1 y2,ys=[y1,y2]/\y1.of a S M/\y2.of b S M:=by
   have hl:=hy.1
   match ys,hl with
   | [y1,y2],_=>exact⟨y1,y2,rfl,hy.2 0 _ _ rfl rfl,hy.2 1 _ _ rfl rfl⟩
  obtain⟨K,hK,a0,a1,a2,b0,b1,p0,p1⟩:=((tv).j ((tx).j ((ty).j ((xO ha hS1 hS h1 g1).j ((xO hb hS1 hS h2 g2).j ((dH 6 [a,b] 0 0 rfl a rfl).j ((dH 6 [a,b] 1 1 rfl b rfl).any))))))).at 0;have e0:∀ l,bA 6 l=fI (l.map Sv.w):=fun _=>rfl
  have e1:gV (gW 6 [a,b]) [x1,x2] [y1,y2]=[eu a x1 y1,eu b x2 y2]:=rfl;rw[e1,e0,kJ];rw[e0,kJ]at a1 a2;obtain⟨vs,Y2,Y3,vc,vb,vu,vp,Y4,ev⟩:=vw.aF;obtain⟨ws,wl1,wl2,wc,wb,wu,wp,wps,ew⟩:=ww.aF;rw[ev]at a1 ⊢;rw[ew]at a2 ⊢;clear tx ty ev ew;simp only[List.map_cons,List.map_nil]at*;generalize eu a x1 y1=z1,eu b x2 y2=z2 at*;obtain⟨xs1,xm1,xn1,xc1,xb1,xu1,xp1,xq1,Vi⟩:=x1.w.aF;obtain⟨xs2,xm2,xn2,xc2,xb2,xu2,xp2,xq2,FU⟩:=x2.w.aF;obtain⟨ys1,ym1,yn1,yc1,yb1,yu1,yp1,yq1,Vj⟩:=y1.w.aF;obtain⟨ys2,ym2,yn2,yc2,yb2,yu2,yp2,yq2,Om⟩:=y2.w.aF;obtain⟨UW,zm1,zn1,zc1,zb1,zu1,zp1,zq1,Vk⟩:=z1.w.aF;obtain⟨zs2,zm2,zn2,zc2,zb2,zu2,zp2,zq2,JP⟩:=z2.w.aF;simp only[Vi,FU,Vj,Om,Vk,JP]at*;clear hK tv e0 e1 hx hy hv h1 g1 h2 g2 Vi FU Vj Om Vk JP;refine Ca.bD (n:=K+500) ?_;rw[av rfl (k19:E1.fn _=_) rfl];unfold wD aP at*;generalize LK .i64 []=l0 at*;simp only[show LK .i64 [a,b]=[.v (.int .i64 a),.v (.int .i64 b)] from rfl]at*;simp (maxSteps:=500000) -implicitDefEqProofs[aC,f19,a0,a1,a2,b0,b1,p0,p1,most,JO,wr2,wr3,ae.view]
 ·obtain⟨y1,y2,y3,rfl,g1,g2,g3⟩:∃ y1 y2 y3,ys=[y1,y2,y3]/\y1.of a S M/\y2.of b S M/\y3.of c S M:=by
   have hl:=hy.1
   match ys,hl with
   | [y1,y2,y3],_=>exact⟨y1,y2,y3,rfl,hy.2 0 _ _ rfl rfl,hy.2 1 _ _ rfl rfl,hy.2 2 _ _ rfl rfl⟩
  obtain⟨K,hK,a0,a1,a2,b0,b1,b2,p0,p1,p2⟩:=((tv).j ((tx).j ((ty).j ((xO ha hS1 hS h1 g1).j ((xO hb hS1 hS h2 g2).j ((xO hc hS1 hS h3 g3).j ((dH 6 [a,b,c] 0 0 rfl a rfl).j ((dH 6 [a,b,c] 1 1 rfl b rfl).j ((dH 6 [a,b,c] 2 2 rfl c rfl).any))))))))).at 0;have e0:∀ l,bA 6 l=fI (l.map Sv.w):=fun _=>rfl
  have e1:gV (gW 6 [a,b,c]) [x1,x2,x3] [y1,y2,y3]=[eu a x1 y1,eu b x2 y2,eu c x3 y3]:=rfl;rw[e1,e0,kJ];rw[e0,kJ]at a1 a2;obtain⟨vs,Y2,Y3,vc,vb,vu,vp,Y4,ev⟩:=vw.aF;obtain⟨ws,wl1,wl2,wc,wb,wu,wp,wps,ew⟩:=ww.aF;rw[ev]at a1 ⊢;rw[ew]at a2 ⊢;clear tx ty ev ew;simp only[List.map_cons,List.map_nil]at*;generalize eu a x1 y1=z1,eu b x2 y2=z2,eu c x3 y3=z3 at*;obtain⟨xs1,xm1,xn1,xc1,xb1,xu1,xp1,xq1,Vi⟩:=x1.w.aF;obtain⟨xs2,xm2,xn2,xc2,xb2,xu2,xp2,xq2,FU⟩:=x2.w.aF;obtain⟨xs3,xm3,xn3,xc3,xb3,xu3,xp3,xq3,Vl⟩:=x3.w.aF;obtain⟨ys1,ym1,yn1,yc1,yb1,yu1,yp1,yq1,Vj⟩:=y1.w.aF;obtain⟨ys2,ym2,yn2,yc2,yb2,yu2,yp2,yq2,Om⟩:=y2.w.aF;obtain⟨ys3,ym3,yn3,yc3,yb3,yu3,yp3,yq3,ey3⟩:=y3.w.aF;obtain⟨UW,zm1,zn1,zc1,zb1,zu1,zp1,zq1,Vk⟩:=z1.w.aF;obtain⟨zs2,zm2,zn2,zc2,zb2,zu2,zp2,zq2,JP⟩:=z2.w.aF;obtain⟨zs3,zm3,zn3,zc3,zb3,zu3,zp3,zq3,ez3⟩:=z3.w.aF;simp only[Vi,FU,Vl,Vj,Om,ey3,Vk,JP,ez3]at*;clear hK tv e0 e1 hx hy hv h1 g1 h2 g2 h3 g3 Vi FU Vl Vj Om ey3 Vk JP ez3;refine Ca.bD (n:=K+500) ?_;rw[av rfl (k19:E1.fn _=_) rfl];unfold wD aP at*;generalize LK .i64 []=l0 at*;simp only[show LK .i64 [a,b,c]=[.v (.int .i64 a),.v (.int .i64 b),.v (.int .i64 c)] from rfl]at*;simp (maxSteps:=500000) -implicitDefEqProofs[aC,f19,a0,a1,a2,b0,b1,b2,p0,p1,p2,most,JO,wr2,wr3,ae.view]
theorem xP {kk:Int}{ps:List Int}{S M:Nat}{xs ys:List Sv}(hv:aH kk ps=true)(hS1:1<=S)(hS:S<=1000)(hx:jS S M (gW kk ps) xs)(hy:jS S M (gW kk ps) ys) :
  Ca E1 19 [.d (aP kk ps),.d (bA kk xs).d,.d (bA kk ys).d] (.d (bA kk (gV (gW kk ps) xs ys)).d,none):=Vh hv hS1 hS hx hy (qM hv hS1 hS hx) (qM hv hS1 hS hy)
theorem uK {k:Int}(hk:single k=true):Ca E1 35 [.d (aP k [])] (.d (eP k).w.d,none):=by
 have tv:=Ca.dW (Ca.bD (dB 0 k []));rw[(dR hk).1]at tv;have e2:∀ b,W.d (.mk false [] [] 0 b 0 [] [])=wD false [] [] 0 b 0 [] []:=fun _=>rfl
 have eq0:(Sv.q 0).w.d=wD false [] [] 0 false 0 [] []:=by
  have h:=xB;obtain⟨s,n,d,e1,g1⟩:=RZ 0;rw[e1];rw[g1]at h;simp only[D.a.injEq,List.cons.injEq,D.v.injEq,Value.bool.injEq,D.s.injEq,true_and,and_true]at h;obtain⟨rfl,rfl,rfl⟩:=h;rfl
 have e:(eP k).w.d=wD false [] [] 0 (k==2) 0 [] []:=by
  rcases a_ hk with rfl|rfl|rfl|rfl|rfl
  ·exact eq0
  ·exact e2 _
  ·exact eq0
  ·exact e2 _
  ·exact e2 _
 rw[e];obtain⟨m0,a0⟩:=(tv).any;clear e e2 eq0 tv;refine Ca.bD (n:=m0+300) ?_;replace a0:=a0 m0 (by omega);rw[av rfl (k35:E1.fn _=_) rfl];unfold wD aP at*;simp only[show LK .i64 []=[] from rfl]at*;rcases a_ hk with rfl|rfl|rfl|rfl|rfl<;>simp -implicitDefEqProofs[aC,f35,a0]
theorem eQ {kk:Int}{ps:List Int}(hv:aH kk ps=true):Ca E1 35 [.d (aP kk ps)] (.d (bA kk ((gW kk ps).map eP)).d,none):=by
 have h:jS 1 1 (gW kk ps) ((gW kk ps).map eP):=mY (by omega) (bI hv);have tv:=Ca.dW (Ca.bD (dB 0 kk ps));rw[hv]at tv;have e0:∀ l,bA 6 l=fI (l.map Sv.w):=fun _=>rfl
 rcases pK hv h with ⟨hk,rfl,x,hxs,hx⟩|⟨rfl,a,b,x,y,rfl,hxs,ha,hb,hx,hy⟩|⟨rfl,a,b,c,x,y,z,rfl,hxs,ha,hb,hc,hx,hy,hz⟩
 ·rw[show gW kk []=[kk] from if_neg (dR hk).2,List.map_cons,List.map_nil,mk_one hk];exact uK hk
 ·clear h hxs;rw[show gW 6 [a,b]=[a,b] from rfl,e0,kJ];simp only[List.map_cons,List.map_nil];obtain⟨K,hK,a0,b0,p0,b1,p1⟩:=(tv.j ((uK ha).j ((dH 6 [a,b] 0 0 rfl a rfl).j ((uK hb).j ((dH 6 [a,b] 1 1 rfl b rfl).any))))).at 0;obtain⟨s0,l0,r0,c0,i0,u0,o0,g0,e0x⟩:=(eP a).w.aF;obtain⟨s1,l1,r1,c1,i1,u1,o1,g1,e1x⟩:=(eP b).w.aF;simp only[e0x,e1x]at*;clear hK tv e0 hv hx hy e0x e1x;refine Ca.bD (n:=K+500) ?_;rw[av rfl (k35:E1.fn _=_) rfl];unfold wD aP at*;generalize LK .i64 []=l0 at*;simp only[show LK .i64 [a,b]=[.v (.int .i64 a),.v (.int .i64 b)] from rfl]at*;simp (maxSteps:=500000) -implicitDefEqProofs[aC,f35,a0,b0,p0,b1,p1,most,JO,wr2,wr3,ae.view]
 ·clear h hxs;rw[show gW 6 [a,b,c]=[a,b,c] from rfl,e0,kJ];simp only[List.map_cons,List.map_nil];obtain⟨K,hK,a0,b0,p0,b1,p1,b2,p2⟩:=(tv.j ((uK ha).j ((dH 6 [a,b,c] 0 0 rfl a rfl).j ((uK hb).j ((dH 6 [a,b,c] 1 1 rfl b rfl).j ((uK hc).j ((dH 6 [a,b,c] 2 2 rfl c rfl).any))))))).at 0;obtain⟨s0,l0,r0,c0,i0,u0,o0,g0,e0x⟩:=(eP a).w.aF;obtain⟨s1,l1,r1,c1,i1,u1,o1,g1,e1x⟩:=(eP b).w.aF;obtain⟨s2,l2,r2,c2,i2,u2,o2,g2,e2x⟩:=(eP c).w.aF;simp only[e0x,e1x,e2x]at*;clear hK tv e0 hv hx hy hz e0x e1x e2x;refine Ca.bD (n:=K+500) ?_;rw[av rfl (k35:E1.fn _=_) rfl];unfold wD aP at*;generalize LK .i64 []=l0 at*;simp only[show LK .i64 [a,b,c]=[.v (.int .i64 a),.v (.int .i64 b),.v (.int .i64 c)] from rfl]at*;simp (maxSteps:=500000) -implicitDefEqProofs[aC,f35,a0,b0,p0,b1,p1,b2,p2,most,JO,wr2,wr3,ae.view]
theorem Zb {kk:Int}{ps:List Int}(hv:aH kk ps=true){w:W}(hw:w.OK)(h:bO kk ps w=false):Ca E1 53 [.d (aP kk ps),.d w.d] (.d (bA kk ((gW kk ps).map eP)).d,none):=by
 have hc:=Ca.dW (o8 kk ps w (Hd hv) hw);rw[h]at hc;obtain⟨K,hK,a0,a1⟩:=(hc.j ((eQ hv).any)).at 0;generalize bA kk ((gW kk ps).map eP)=z at*;obtain⟨vs,Y2,Y3,vc,vb,vu,vp,Y4,ev⟩:=w.aF;obtain⟨zs,yP,yQ,zc,zb,zu,zp,EG,ez⟩:=z.aF;simp only[ev,ez]at a0 a1 ⊢;clear hc hK ev ez h hw hv;refine Ca.bD (n:=K+200) ?_;rw[av rfl (k53:E1.fn _=_) rfl];unfold wD aP at*;generalize LK .i64 ps=l0 at*;simp -implicitDefEqProofs[aC,f53,a0,a1]
theorem Dw {kk:Int}{ps:List Int}(hv:aH kk ps=true){w:W}(ht:w.nA)(hl:w.bC=true)(hc:bO kk ps w=true):∃ xs,jS 3 8 (gW kk ps) xs/\w=bA kk xs:=by
 have hs:=bI hv;unfold bO at hc;rw[hv]at hc
 by_cases h6:kk=6
 ·subst h6;simp only[Bool.true_and,ne_eq,not_true_eq_false,if_false,Bool.and_eq_true,beq_iff_eq]at hc;obtain⟨⟨h1,h2⟩,h4⟩:=hc;obtain⟨xs,hxs,hof⟩:=FQ hs h1 (Mq ht hl) h4;refine⟨xs,hof,?_⟩;rw[Qj h2,hxs];rfl
 ·obtain⟨rfl,hk⟩:=pJ hv h6;simp only[Bool.true_and,ne_eq,h6,not_false_eq_true,if_true]at hc;obtain⟨h1,h2⟩:=Dp w ht hl;obtain⟨x,rfl,hx⟩:=U2 hk (by omega) h1 h2 hc;exact⟨[x],Oj hk hx,(mk_one hk x).symm⟩
end Fi.S
