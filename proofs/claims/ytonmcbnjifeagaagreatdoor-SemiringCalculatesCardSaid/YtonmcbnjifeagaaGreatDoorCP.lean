/- The laws of sums and products; those of weightedref03. -/
import Derived.Test.YtonmcbnjifeagaaGreatDoorCO
set_option linter.unusedVariables false
set_option linter.unusedSimpArgs false
noncomputable section
namespace Fi.S
open Go Fi
set_option maxHeartbeats 1000000
theorem LM (a b:d_):bY a b=bY b a:=by simp[bY,Int.add_comm]
theorem LP {S:Nat}(hS:1<=S){a b:List aJ}(ha:PV S a)(hb:PV S b):fF a b=fF b a :=
 PV.ext (kR hS hS ha hb) (kR hS hS hb ha) (fun e=>by rw[mq,mq];grind)
theorem zF {S:Nat}(hS:1<=S){a:List aJ}(ha:PV S a):fF a []=a :=
 PV.ext (kR hS hS ha (PV.nil S)) ha (fun e=>by rw[mq];simp only[tot];grind)
def cv (a:List aJ)(f:d_->Rat)(e:d_):Rat:=match a with
 | []=>0
 | p::r=>p.2*f (e.1-p.1.1,e.2.1-p.1.2.1,e.2.2-p.1.2.2)+cv r f e
def Xq (e a:d_):d_:=(e.1-a.1,e.2.1-a.2.1,e.2.2-a.2.2)
theorem JY (a b e:d_):bY a b=e↔b=Xq e a:=by
 obtain⟨a1,a2,a3⟩:=a;obtain⟨b1,b2,b3⟩:=b;obtain⟨e1,e2,e3⟩:=e;simp only[bY,Xq,Prod.mk.injEq];omega
theorem BH (p:aJ)(e:d_):∀ b:List aJ,tot (dA p b) e=p.2*tot b (Xq e p.1)
 | []=>by simp only[dA,List.map_nil,tot];grind
 | q::r=>by
  have ih:=BH p e r;have h1:dA p (q::r)=(bY p.1 q.1,p.2*q.2)::dA p r:=rfl;obtain⟨qe,y⟩:=q;rw[h1];simp only[tot,ih]
  by_cases h:bY p.1 qe=e
  ·rw[if_pos h,if_pos ((JY _ _ _).1 h)];grind
  ·rw[if_neg h,if_neg (fun h2=>h ((JY _ _ _).2 h2))];grind
theorem BI (b:List aJ)(e:d_):∀ a:List aJ,tot (b_ a b) e=cv a (tot b) e
 | []=>rfl
 | p::a=>by
  have h1:b_ (p::a) b=dA p b++b_ a b:=by simp[b_]
  rw[h1,gI,BI b e a,BH];rfl
theorem zG (l:List aJ)(e:d_):tot (l.filter fun p=>aX p.1) e=if aX e=true then tot l e else 0:=by
 induction l with
 | nil=>simp[tot]
 | cons p r ih =>
  obtain⟨a,y⟩:=p
  by_cases h:aX a=true
  ·rw[List.filter_cons_of_pos (p:=fun p:aJ=>aX p.1) h];simp only[tot,ih]
   by_cases h2:a=e
   ·subst h2;simp[h]
   ·simp only[if_neg h2];split<;>grind
  ·rw[List.filter_cons_of_neg (p:=fun p:aJ=>aX p.1) h,ih];simp only[tot]
   by_cases h2:a=e
   ·subst h2;simp[h]
   ·simp only[if_neg h2];split<;>grind
theorem JZ (a b:List aJ)(e:d_):tot (dU a b) e=if aX e=true then cv a (tot b) e else 0:=by
 rw[pz,<-j4,zG,BI]
theorem AQ (e:d_):∀ a b:List aJ,tot (b_ a b) e=tot (b_ b a) e:=by
 have abZ:∀ a:List aJ,b_ a []=[]:=fun a=>by
  induction a with
  | nil=>rfl
  | cons p r ih =>
   have h1:b_ (p::r) []=dA p []++b_ r []:=by simp[b_]
   rw[h1,ih];rfl
 have ZW:∀ (q:aJ) (b a:List aJ),tot (b_ a (q::b)) e=tot (dA q a) e+tot (b_ a b) e:=by
  intro q b a
  induction a with
  | nil=>simp only[b_,dA,List.flatMap_nil,List.map_nil,tot];grind
  | cons p r ih =>
   have h1:b_ (p::r) (q::b)=dA p (q::b)++b_ r (q::b):=by simp[b_]
   have h2:b_ (p::r) b=dA p b++b_ r b:=by simp[b_]
   have h3:dA p (q::b)=(bY p.1 q.1,p.2*q.2)::dA p b:=rfl;have h4:dA q (p::r)=(bY q.1 p.1,q.2*p.2)::dA q r:=rfl;rw[h1,h2,gI,gI,h3,h4,ih];simp only[tot,LM q.1 p.1];grind
 intro a
 induction a with
 | nil=>intro b;rw[abZ];rfl
 | cons p r ih =>
  intro b;have h1:b_ (p::r) b=dA p b++b_ r b:=by simp[b_]
  rw[h1,gI,ZW,ih]
theorem LQ {S:Nat}(hS:1<=S){a b:List aJ}(ha:PV S a)(hb:PV S b):dU a b=dU b a :=
 PV.ext (uh hS ha hb) (uh hS hb ha) (fun e=>by
  rw[pz,pz,<-j4,<-j4,zG,zG,AQ])
theorem zH (x:BitVec 64):IntKind.wrap .u64 (x.toNat:Int)=(x.toNat:Int):=by
 have h:=x.isLt;rw[<-bP];exact wrap_u64 (by omega)
theorem Qf (u v:Int):GG .u64 u v=((BitVec.ofInt 64 u ||| BitVec.ofInt 64 v).toNat:Int):=by
 rw[uQ];exact zH _
theorem T_ (u v:Int):CX .u64 u v=((BitVec.ofInt 64 u &&& BitVec.ofInt 64 v).toNat:Int):=by
 rw[CY];exact zH _
theorem or_comm (u v:Int):GG .u64 u v=GG .u64 v u:=by rw[Qf,Qf,BitVec.or_comm]
section
theorem Xr {S M:Nat}{x:Sv}(h:x.of 1 S M):∃ q,x=.q q/\qz q<=S:=by
 cases x with
 | q x=>exact⟨x,rfl,h.2⟩
 | c i n=>exact absurd h.1 (by decide)
 | s u=>exact absurd h.1 (by decide)
 | p a=>exact absurd h.1 (by decide)
theorem Vg {S M:Nat}{x:Sv}(h:x.of 2 S M):∃ i n,x=.c i n/\0<=n/\n<=1099511627776/\(i=true->n=0):=by
 cases x with
 | c i n=>exact⟨i,n,rfl,h.2⟩
 | q x=>rcases h.1 with h | h;exact absurd h (by decide);exact absurd h.1 (by decide)
 | s u=>exact absurd h.1 (by decide)
 | p a=>exact absurd h.1 (by decide)
theorem Vh {S M:Nat}{x:Sv}(h:x.of 3 S M):∃ q,x=.q q/\0<=q/\q<=1/\qz q<=S:=by
 cases x with
 | q x =>
  rcases h.1 with h1|h1
  ·exact absurd h1 (by decide)
  ·exact⟨x,rfl,h1.2.1,h1.2.2,h.2⟩
 | c i n=>exact absurd h.1 (by decide)
 | s u=>exact absurd h.1 (by decide)
 | p a=>exact absurd h.1 (by decide)
theorem Yw {S M:Nat}{x:Sv}(h:x.of 4 S M):∃ u,x=.s u/\Az u:=by
 cases x with
 | s u=>exact⟨u,rfl,h.2⟩
 | q x=>rcases h.1 with h | h;exact absurd h (by decide);exact absurd h.1 (by decide)
 | c i n=>exact absurd h.1 (by decide)
 | p a=>exact absurd h.1 (by decide)
theorem Xt {S M:Nat}{x:Sv}(h:x.of 5 S M):∃ a,x=.p a/\PV S a/\a.length<=M:=by
 cases x with
 | p a=>exact⟨a,rfl,h.2⟩
 | q x=>rcases h.1 with h | h;exact absurd h (by decide);exact absurd h.1 (by decide)
 | c i n=>exact absurd h.1 (by decide)
 | s u=>exact absurd h.1 (by decide)
def wY (k:Int):Sv:=if k=2 then .c false 0 else if k=4 then .s 18446744073709551615 else if k=5 then .p (bB 1) else .q 1
theorem Dr {k:Int}(hk:single k=true)(S M:Nat)(hS:1<=S)(hM:1<=M):(wY k).of k S M:=by
 rcases aM hk with rfl|rfl|rfl|rfl|rfl
 ·exact⟨.inl rfl,Nat.le_trans jg hS⟩
 ·exact⟨rfl,by decide,by decide,fun _=>rfl⟩
 ·exact⟨.inr ⟨rfl,by decide,by decide⟩,Nat.le_trans jg hS⟩
 ·exact⟨rfl,by decide,by decide⟩
 ·exact⟨rfl,jk (Nat.le_trans jg hS),Nat.le_trans (mE 1) hM⟩
theorem pl1 (x y:Rat):eU 1 (.q x) (.q y)=.q (x+y):=rfl
theorem pl3 (x y:Rat):eU 3 (.q x) (.q y)=.q (if x<y then y else x):=by
 show(if x<y then Sv.q y else .q x)=_;split<;>rfl
theorem pl2 (i j:Bool)(n m:Int):eU 2 (.c i n) (.c j m)=if pE j m i n then .c j m else .c i n:=rfl
theorem pl4 (u v:Int):eU 4 (.s u) (.s v)=.s (GG .u64 u v):=rfl
theorem pl5 (a b:List aJ):eU 5 (.p a) (.p b)=.p (fF a b):=rfl
theorem ti1 (x y:Rat):dQ (.q x) (.q y)=.q (x*y):=rfl
theorem ti2 (i j:Bool)(n m:Int):dQ (.c i n) (.c j m)=if i||(j||decide (1099511627776<n+m)) then .c true 0 else .c false (n+m):=rfl
theorem ti4 (u v:Int):dQ (.s u) (.s v)=.s (CX .u64 u v):=rfl
theorem ti5 (a b:List aJ):dQ (.p a) (.p b)=.p (dU a b):=rfl
section laws
variable {k:Int} {S M:Nat} {x y z:Sv}
theorem Xu {a b:Rat}(ha:0<=a/\a<=1)(hb:0<=b/\b<=1):0<=a*b/\a*b<=1:=by
 have h1:0<=a*b:=Rat.mul_nonneg ha.1 hb.1;have h2:0<=a*(1-b):=Rat.mul_nonneg ha.1 (by grind);constructor
 ·exact h1
 ·grind
theorem Qg (hk:single k=true)(hS:1<=S)(hM:1<=M)(hx:x.of k S M)(hy:y.of k S M):(dQ x y).of k (M*(S+S+1)+1) (M*M):=by
 have hb:S+S<=M*(S+S+1)+1:=by
  have:=Nat.mul_le_mul_right (S+S+1) hM;omega
 rcases aM hk with rfl|rfl|rfl|rfl|rfl
 ·obtain⟨a,rfl,ha⟩:=Xr hx;obtain⟨b,rfl,hb'⟩:=Xr hy;have:=rE a b;exact⟨.inl rfl,show qz (a*b)<=_ by omega⟩
 ·obtain⟨i,n,rfl,h1,h2,h3⟩:=Vg hx;obtain⟨j,m,rfl,g1,g2,g3⟩:=Vg hy;rw[ti2];split
  ·exact⟨rfl,by decide,by decide,fun _=>rfl⟩
  ·rename_i h;simp at h;exact⟨rfl,by omega,by omega,fun h=>by cases h⟩
 ·obtain⟨a,rfl,a0,a1,ha⟩:=Vh hx;obtain⟨b,rfl,b0,b1,hb'⟩:=Vh hy;have:=rE a b;exact⟨.inr ⟨rfl,Xu ⟨a0,a1⟩ ⟨b0,b1⟩⟩,show qz (a*b)<=_ by omega⟩
 ·obtain⟨u,rfl,hu⟩:=Yw hx;obtain⟨v,rfl,hv⟩:=Yw hy;refine⟨rfl,?_⟩;show Az (CX .u64 u v);rw[T_];have:=(BitVec.ofInt 64 u &&& BitVec.ofInt 64 v).isLt;unfold Az;omega
 ·obtain⟨a,rfl,ha,la⟩:=Xt hx;obtain⟨b,rfl,hb',lb⟩:=Xt hy;refine⟨rfl,(uh hS ha hb').mono ?_,Nat.le_trans (pg a b) (Nat.mul_le_mul la lb)⟩;exact Nat.add_le_add_right (Nat.mul_le_mul_right _ la) 1
end laws
end
set_option maxHeartbeats 8000000
section
def ky (kk:Int)(ps:List Int):List Int:=if kk=6 then ps else [kk]
def jS (kk:Int)(xs:List Sv):W:=if kk=6 then cu (xs.map Sv.w) else(xs.headD (.q 0)).w
noncomputable def nH (xs ys:List Sv):List Sv:=(xs.zip ys).map fun p=>dQ p.1 p.2
theorem mG {kk:Int}{ps:List Int}(h:aH kk ps=true):∀ k ∈ ky kk ps,single k=true:=by
 unfold ky;split
 ·rename_i h6;subst h6;exact(P6 h).2.2
 ·rename_i h6;unfold aH at h;rw[if_pos h6]at h;simp only[Bool.and_eq_true]at h;intro k hk;rw[List.mem_singleton]at hk;subst hk;exact h.1
theorem BJ {xs ys:List Sv}{i:Nat}{z:Sv}(h:(nH xs ys)[i]?=some z):∃ x y,xs[i]?=some x/\ys[i]?=some y/\z=dQ x y:=by
 unfold nH at h;rw[List.getElem?_map,Option.map_eq_some_iff]at h;obtain⟨⟨x,y⟩,h1,rfl⟩:=h;rw[List.getElem?_zip_eq_some]at h1;exact⟨x,y,h1.1,h1.2,rfl⟩
theorem Iq {S M:Nat}(hS:1<=S)(hM:1<=M){ks:List Int}(hs:∀ k ∈ ks,single k=true){xs ys:List Sv}(hx:lY S M ks xs)(hy:lY S M ks ys):lY (M*(S+S+1)+1) (M*M) ks (nH xs ys):=by
 refine⟨by simp[nH,hx.1,hy.1],fun i k z hk hz => ?_⟩;obtain⟨x,y,h2,h3,rfl⟩:=BJ hz;exact Qg (hs k (List.mem_of_getElem? hk)) hS hM (hx.2 i k x hk h2) (hy.2 i k y hk h3)
theorem lY.mono {S T M M':Nat}{ks:List Int}{xs:List Sv}(h:lY S M ks xs)(hST:S<=T)(hM:M<=M'):lY T M' ks xs:=⟨h.1,fun i k x hk hx=>(h.2 i k x hk hx).mono hST hM⟩
theorem J2 {α:Type}{l:List α}{i:Nat}{x y:α}(h1:l[i]?=some x)(h2:l[i]?=some y):x=y:=by
 rw[h1]at h2;exact Option.some.inj h2
section laws
variable {S M:Nat} {ks:List Int} {xs ys zs:List Sv}
theorem Dt {f:Int->Sv}{i:Nat}{k:Int}{z:Sv}(hk:ks[i]?=some k)(h:(ks.map f)[i]?=some z):z=f k:=by
 rw[List.getElem?_map,hk]at h;exact(Option.some.inj h).symm
theorem BK (hS:1<=S)(hs:∀ k ∈ ks,single k=true):lY S M ks (ks.map gX):=⟨by simp,fun i k x hk hx=>by rw[Dt hk hx];exact zB (hs k (List.mem_of_getElem? hk)) S M hS⟩
end laws
section ring
variable {kk:Int} {ps:List Int} {S M:Nat} {xs ys:List Sv}
theorem iO {k:Int}(h:lY S M [k] xs):∃ x,xs=[x]/\x.of k S M:=by
 match xs,h with
 | [x],h=>exact⟨x,rfl,h.2 0 k x rfl rfl⟩
 | [],h=>simp[lY]at h
 | _::_::_,h=>simp[lY]at h
theorem kz (h:aH kk ps=true)(h6:kk≠6):ps=[]/\single kk=true:=by
 unfold aH at h;rw[if_pos h6]at h;simp only[Bool.and_eq_true,decide_eq_true_eq]at h;exact⟨h.2,h.1⟩
theorem Vi (hv:aH kk ps=true)(hS:S<=100000)(h:lY S M (ky kk ps) xs):(jS kk xs).OK:=by
 unfold jS
 by_cases h6:kk=6
 ·subst h6;rw[if_pos rfl];unfold ky at h;rw[if_pos rfl]at h;exact JX hS (P6 hv).1 h
 ·rw[if_neg h6];unfold ky at h;rw[if_neg h6]at h;obtain⟨x,rfl,hx⟩:=iO h;exact Qa hx hS
theorem FO (hv:aH kk ps=true)(h:lY S M (ky kk ps) xs):iJ kk ps (jS kk xs)=true:=by
 unfold jS
 by_cases h6:kk=6
 ·subst h6;rw[if_pos rfl];unfold ky at h;rw[if_pos rfl]at h;exact zD hv h
 ·rw[if_neg h6];unfold ky at h;rw[if_neg h6]at h;obtain⟨x,rfl,hx⟩:=iO h;unfold iJ;rw[hv,if_pos h6];exact P_ hx
theorem Du (hv:aH kk ps=true):ps.length<=100000000:=by
 by_cases h6:kk=6
 ·subst h6;have:=(P6 hv).1;omega
 ·rw[(kz hv h6).1];simp
theorem Qh (hv:aH kk ps=true)(hS:S<=100000)(h:lY S M (ky kk ps) xs):Ca E1 41 [.d (aT kk ps),.d (jS kk xs).d] (.d (jS kk xs).d,none) :=
 Dp (Du hv) (Vi hv hS h) (FO hv h)
theorem qA (hv:aH kk ps=true)(hS:S<=100000)(h:lY S M (ky kk ps) xs):Ca E1 12 [.d (jS kk xs).d,.d (jS kk xs).d] (.d (.v (.bool true)),none):=by
 have hok:=Vi hv hS h;have:=Bi _ hok _ hok;rw[W.JH]at this;exact Ca.dO this
end ring
end
end Fi.S
noncomputable section
namespace Fi.S
open Go Fi
set_option maxHeartbeats 8000000
set_option maxRecDepth 10000
def AR (k:Int):D :=
 if k=4 then .a [.v (.bool false),.s 1 [],.s 1 [],.v (.int .i64 0),.v (.bool false),.v (.int .u64 18446744073709551615),.s 6 [],.s 8 []]
 else if k=2 then .a [.v (.bool false),.s 1 [],.s 1 [],.v (.int .i64 0),.v (.bool false),.v (.int .u64 0),.s 6 [],.s 8 []]
 else if k=5 then .a [.v (.bool false),.s 1 [],.s 1 [],.v (.int .i64 0),.v (.bool false),.v (.int .u64 0),Qi,.s 8 []]
 else .a [.v (.bool false),.s 1 [.v (.int .u32 1)],.s 1 [],.v (.int .i64 0),.v (.bool false),.v (.int .u64 0),.s 6 [],.s 8 []]
def ZX (k:Int)(ps:List Int):D:=if k=6 then .a [.v (.bool false),.s 1 [],.s 1 [],.v (.int .i64 0),.v (.bool false),.v (.int .u64 0),.s 6 [],.s 8 (ps.map AR)] else AR k
def ocB (k:Int)(ps:List Int):Bool :=
 match bX E6 3000 27 [.d (aT k ps)] [] with
 | some (.d z,none)=>gH z (ZX k ps)
 | _=>false
theorem Ir {k:Int}(hk:single k=true):(wY k).w.d=AR k:=by
 have h1:qs 1=false:=by decide
 have h2:qn 1=[1]:=by
  show enc 1=[1]
  exact ku (by omega) (by omega)
 have h3:qd 1=[]:=if_pos rfl;have hc:bB 1=[((0,0,0),1)]:=if_neg (by decide);rcases aM hk with rfl|rfl|rfl|rfl|rfl
 ·simp[wY,AR,Sv.w,W.d,W.ds,PD,LD,LL,h1,h2,h3]
 ·simp[wY,AR,Sv.w,W.d,W.ds,PD,LD,LL]
 ·simp[wY,AR,Sv.w,W.d,W.ds,PD,LD,LL,h1,h2,h3]
 ·simp[wY,AR,Sv.w,W.d,W.ds,PD,LD,LL]
 ·simp[wY,AR,Sv.w,W.d,W.ds,PD,LD,LL,hc,o9,Mo.d,h1,h2,h3,Qi]
theorem LU {kk:Int}{ps:List Int}(h:aH kk ps=true):Ca E1 26 [.d (aT kk ps)] (.d (jS kk ((ky kk ps).map gX)).d,none):=by
 have h1:=Qe h;have e:FM kk ps=jS kk ((ky kk ps).map gX):=by
  unfold FM jS ky
  by_cases h6:kk=6
  ·simp only[if_pos h6,List.map_map];rfl
  ·simp only[if_neg h6];rfl
 rw[e]at h1;exact h1
noncomputable def ad8 (kk:Int) (ps:List Int) (v:Int):List Sv:=if kk=6 then(List.range ps.length).map fun i=>Vf (ps.getD i 0) (af .i64 (v+i)) else [Vf kk v]
end Fi.S
namespace Fi.S
open Go Fi
set_option maxHeartbeats 8000000
set_option maxRecDepth 10000
theorem LV {k:Int}{S M:Nat}(hS:S<=100000){x:Sv}(h:x.of k S M):∃ s l1 l2 c b u p,x.w.d=wD s l1 l2 c b u p [] /\
  Ca E1 85 [.d (.a [.v (.bool s),.s 1 l1,.s 1 l2])] (.d (.a [.v (.bool s),.s 1 l1,.s 1 l2]),none)/\Ca E1 86 [.d (.s 6 p)] (.d (.s 6 p),none):=by
 have t0:=Ca.dO (dX 0 (by have:=fE;omega));rw[iM]at t0;obtain⟨_,p0,rfl⟩:=lH (PV.nil S) hS;cases x with
 | q x =>
  have:=h.2;exact⟨_,_,_,_,_,_,_,rfl,Ca.dO (dX x (by omega)),p0⟩
 | c i n=>exact⟨_,_,_,_,_,_,_,rfl,t0,p0⟩
 | s u=>exact⟨_,_,_,_,_,_,_,rfl,t0,p0⟩
 | p l =>
  obtain⟨_,t1,rfl⟩:=lH h.2.1 hS;exact⟨_,_,_,_,_,_,_,FB l,t0,t1⟩
theorem bR (kk:Int)(ps:List Int)(i:Nat)(j:Int)(hj:j=i)(a:Int)(h:ps[i]?=some a):Ca E1 56 [.d (aT kk ps),.d (.v (.int .i64 j))] (.d (aT a []),none):=by
 subst hj;have e1:(LK .i64 ps)[i]?=some (.v (.int .i64 a)):=by simp[LK,h]
 have hl:i<(LK .i64 ps).length:=(bE e1)
 have h0:(0:Int)<=(i:Int):=by omega
 refine Ca.a_ (n:=60) ?_;rw[ah rfl (k56:E1.fn _=_) rfl];have e2:=idx e1;have e0:LK .i64 []=[]:=rfl;unfold aT;rw[e0];generalize LK .i64 ps=l1 at*;simp -implicitDefEqProofs [f56,e1,e2,hl,h0]
theorem Qj:af .i64 1=1:=wrap_i64 (by omega)
theorem wr2:af .i64 2=2:=wrap_i64 (by omega)
theorem wr3:af .i64 3=3:=wrap_i64 (by omega)
theorem dh {k:Int}(hk:single k=true):aH k []=true/\k≠6:=by
 have h6:k≠6:=by
  rintro rfl;exact absurd hk (by decide)
 exact⟨by unfold aH;rw[if_pos h6,hk];rfl,h6⟩
theorem kT {kk:Int}{ps:List Int}{S M:Nat}{xs:List Sv}(hv:aH kk ps=true)(h:lY S M (ky kk ps) xs) :
  (single kk=true/\ps=[]/\∃ x,xs=[x]/\x.of kk S M) \/
  (kk=6/\∃ a b x y,ps=[a,b]/\xs=[x,y]/\single a=true/\single b=true/\x.of a S M/\y.of b S M) \/
  (kk=6/\∃ a b c x y z,ps=[a,b,c]/\xs=[x,y,z]/\single a=true/\single b=true/\single c=true/\x.of a S M/\y.of b S M/\z.of c S M):=by
 have hs:=mG hv
 by_cases h6:kk=6
 ·subst h6;obtain⟨l3,l2,_⟩:=P6 hv;unfold ky at*;rw[if_pos rfl]at h hs;have hl:=h.1
  match ps,xs,l3,l2,hl with
  | [a,b],[x,y],_,_,_=>exact .inr (.inl ⟨rfl,a,b,x,y,rfl,rfl,hs a (by simp),hs b (by simp),h.2 0 a x rfl rfl,h.2 1 b y rfl rfl⟩)
  | [a,b,c],[x,y,z],_,_,_=>exact .inr (.inr ⟨rfl,a,b,c,x,y,z,rfl,rfl,hs a (by simp),hs b (by simp),hs c (by simp),h.2 0 a x rfl rfl,h.2 1 b y rfl rfl,h.2 2 c z rfl rfl⟩)
 ·obtain⟨rfl,hk⟩:=kz hv h6;unfold ky at h;rw[if_neg h6]at h;obtain⟨x,rfl,hx⟩:=iO h;exact .inl ⟨hk,rfl,x,rfl,hx⟩
theorem mk_one {k:Int}(hk:single k=true)(x:Sv):jS k [x]=x.w:=if_neg (dh hk).2
theorem xG {k:Int}(hk:single k=true){S M:Nat}{x:Sv}(h:x.of k S M):lY S M (ky k []) [x]:=by
 unfold ky;rw[if_neg (dh hk).2];exact⟨rfl,fun i k' x' h1 h2=>by
  match i with
  | 0=>cases h1;cases h2;exact h
  | i+1=>cases h1⟩
theorem ic {k:Int}(hk:single k=true){S M:Nat}(hS1:1<=S)(hS:S<=100000){x:Sv}(h:x.of k S M):Ca E1 53 [.d (aT k []),.d x.w.d] (.d x.w.d,none):=by
 have hc:=Ca.dO (uY k [] x.w (by simp) (Qa h hS));have hm:=FO (dh hk).1 (xG hk h);rw[mk_one hk]at hm;rw[hm]at hc;obtain⟨s,l1,l2,c,b,u,p,e,t1,t2⟩:=LV hS h;rw[e]at hc ⊢;obtain⟨K,hK,a0,a1,a2⟩:=(hc.j (t1.j t2.any)).at 0;clear hc t1 t2 e h hm hK;refine Ca.a_ (n:=K+200) ?_;rw[ah rfl (k53:E1.fn _=_) rfl];unfold wD aT at*;generalize LK .i64 []=l0 at*;simp -implicitDefEqProofs [aA,f53,a0,a1,a2]
theorem jl (xs:List Sv):(cu (xs.map Sv.w)).d=wD false [] [] 0 false 0 [] (xs.map fun x=>x.w.d):=by
 show D.a [.v (.bool false),.s 1 [],.s 1 [],.v (.int .i64 0),.v (.bool false),.v (.int .u64 0),.s 6 [],.s 8 (W.ds (xs.map Sv.w))]=_;rw[W.dM,List.map_map];rfl
theorem zI {ps:List Int}{S M:Nat}{xs:List Sv}(hv:aH 6 ps=true)(hS1:1<=S)(hS:S<=100000)(h:lY S M ps xs) :
  Ca E1 29 [.d (aT 6 ps),.d (wD false [] [] 0 false 0 [] (xs.map fun x=>x.w.d))] (.d (.v (.bool true)),none)/\Ca E1 85 [.d (.a [.v (.bool false),.s 1 [],.s 1 []])] (.d (.a [.v (.bool false),.s 1 [],.s 1 []]),none)/\Ca E1 86 [.d (.s 6 [])] (.d (.s 6 []),none):=by
 have hc:=Ca.dO (uY 6 ps (cu (xs.map Sv.w)) (Du hv) (JX hS (P6 hv).1 h));rw[zD hv h,jl]at hc;have t0:=Ca.dO (dX 0 (by have:=fE;omega));rw[iM]at t0;obtain⟨_,p0,rfl⟩:=lH (PV.nil S) hS;exact⟨hc,t0,p0⟩
theorem Ua {kk:Int}{ps:List Int}{S M:Nat}{xs:List Sv}(hv:aH kk ps=true)(hS1:1<=S)(hS:S<=100000)(h:lY S M (ky kk ps) xs):Ca E1 53 [.d (aT kk ps),.d (jS kk xs).d] (.d (jS kk xs).d,none):=by
 rcases kT hv h with ⟨hk,rfl,x,rfl,hx⟩|⟨rfl,a,b,x,y,rfl,rfl,ha,hb,hx,hy⟩|⟨rfl,a,b,c,x,y,z,rfl,rfl,ha,hb,hc,hx,hy,hz⟩
 ·rw[mk_one hk];exact ic hk hS1 hS hx
 ·obtain⟨f1,f2,f3⟩:=zI hv hS1 hS h;obtain⟨K,hK,a0,a1,a2,b0,b1,p0,p1⟩:=((f1).j ((f2).j ((f3).j ((ic ha hS1 hS hx).j ((ic hb hS1 hS hy).j ((bR 6 [a,b] 0 0 rfl a rfl).j ((bR 6 [a,b] 1 1 rfl b rfl).any))))))).at 0;have e0:∀ l,jS 6 l=cu (l.map Sv.w):=fun _=>rfl
  rw[e0,jl];simp only[List.map_cons,List.map_nil]at*;obtain⟨xs,x1,x2,xc,xb,xu,xp,xq,ex⟩:=x.w.av;obtain⟨ys,y1,y2,yc,yb,yu,yp,yq,ey⟩:=y.w.av;simp only[ex,ey]at*;clear hK f1 f2 f3 e0 h hv hx hy ex ey;refine Ca.a_ (n:=K+500) ?_;rw[ah rfl (k53:E1.fn _=_) rfl];unfold wD aT at*;generalize LK .i64 []=l0 at*;simp only[show LK .i64 [a,b]=[.v (.int .i64 a),.v (.int .i64 b)] from rfl]at*;simp (maxSteps:=500000) -implicitDefEqProofs [aA,f53,a0,a1,a2,b0,b1,p0,p1,most,Qj,wr2,wr3,ae.view]
 ·obtain⟨f1,f2,f3⟩:=zI hv hS1 hS h;obtain⟨K,hK,a0,a1,a2,b0,b1,b2,p0,p1,p2⟩:=((f1).j ((f2).j ((f3).j ((ic ha hS1 hS hx).j ((ic hb hS1 hS hy).j ((ic hc hS1 hS hz).j ((bR 6 [a,b,c] 0 0 rfl a rfl).j ((bR 6 [a,b,c] 1 1 rfl b rfl).j ((bR 6 [a,b,c] 2 2 rfl c rfl).any))))))))).at 0;have e0:∀ l,jS 6 l=cu (l.map Sv.w):=fun _=>rfl
  rw[e0,jl];simp only[List.map_cons,List.map_nil]at*;obtain⟨xs,x1,x2,xc,xb,xu,xp,xq,ex⟩:=x.w.av;obtain⟨ys,y1,y2,yc,yb,yu,yp,yq,ey⟩:=y.w.av;obtain⟨zs,z1,z2,zc,zb,zu,zp,zq,ez⟩:=z.w.av;simp only[ex,ey,ez]at*;clear hK f1 f2 f3 e0 h hv hx hy hz ex ey ez;refine Ca.a_ (n:=K+500) ?_;rw[ah rfl (k53:E1.fn _=_) rfl];unfold wD aT at*;generalize LK .i64 []=l0 at*;simp only[show LK .i64 [a,b,c]=[.v (.int .i64 a),.v (.int .i64 b),.v (.int .i64 c)] from rfl]at*;simp (maxSteps:=500000) -implicitDefEqProofs [aA,f53,a0,a1,a2,b0,b1,b2,p0,p1,p2,most,Qj,wr2,wr3,ae.view]
theorem oC (x:Rat):∃ s n d,(Sv.q x).w.d=wD s n d 0 false 0 [] []/\qD x=.a [.v (.bool s),.s 1 n,.s 1 d]:=⟨_,_,_,rfl,rfl⟩
theorem J3 {k:Int}(hk:single k=true){S M:Nat}(hS1:1<=S)(hS:S<=100000){x y:Sv}(hx:x.of k S M)(hy:y.of k S M){vw ww:W}(tx:Ca E1 53 [.d (aT k []),.d vw.d] (.d x.w.d,none))(ty:Ca E1 53 [.d (aT k []),.d ww.d] (.d y.w.d,none)) :
  Ca E1 19 [.d (aT k []),.d vw.d,.d ww.d] (.d (eU k x y).w.d,none):=by
 have tv:=Ca.dO (Ca.a_ (bG 0 k []));rw[(dh hk).1]at tv;obtain⟨vs,vD,vE,vc,vb,vu,vp,vF,ev⟩:=vw.av;obtain⟨ws,FH,FI,wc,wb,wu,wp,FJ,ew⟩:=ww.av;rw[ev]at tx ⊢;rw[ew]at ty ⊢;clear ev ew;rcases aM hk with rfl|rfl|rfl|rfl|rfl
 ·obtain⟨a,rfl,ha⟩:=Xr hx;obtain⟨b,rfl,hb⟩:=Xr hy;obtain⟨K,hK,a0,a1,a2,a3⟩:=((tv).j ((tx).j ((ty).j ((Ca.dO (xw a b (by omega) (by omega))).any)))).at 0;obtain⟨s1,n1,d1,e1,g1⟩:=oC a;obtain⟨s2,n2,d2,e2,g2⟩:=oC b;rw[pl1];obtain⟨s3,n3,d3,e3,g3⟩:=oC (a+b);rw[g1,g2,g3]at a3;rw[e1]at a1;rw[e2]at a2;rw[e3];clear hK tv tx ty;refine Ca.a_ (n:=K+300) ?_;rw[ah rfl (k19:E1.fn _=_) rfl]
  (try unfold wD at*)
  unfold aT at*;generalize LK .i64 []=l0 at*;simp -implicitDefEqProofs [aA,f19,a0,a1,a2,a3]
 ·obtain⟨i,n,rfl,hn0,hn1,hin⟩:=Vg hx;obtain⟨j,m,rfl,hm0,hm1,hjm⟩:=Vg hy;obtain⟨K,hK,a0,a1,a2⟩:=((tv).j ((tx).j ((ty).any))).at 0;rw[pl2];have hc1:∀ n,(Sv.c i n).w.d=wD false [] [] n i 0 [] []:=fun n=>rfl
  have hc2:∀ n,(Sv.c j n).w.d=wD false [] [] n j 0 [] []:=fun n=>rfl
  unfold pE;rw[hc1]at a1;rw[hc2]at a2
  by_cases h:m<n<;>cases i<;>cases j<;>(try obtain rfl:=hin rfl)<;>(try obtain rfl:=hjm rfl)<;>(try exact absurd h (by omega))<;>simp only[h,Bool.not_true,Bool.not_false,Bool.false_and,Bool.true_and,Bool.and_true,Bool.or_true,Bool.true_or,Bool.false_or,decide_true,decide_false,if_true,if_false,Bool.false_eq_true,hc1,hc2] <;>
  (clear hK tv tx ty;refine Ca.a_ (n:=K+300) ?_;rw[ah rfl (k19:E1.fn _=_) rfl];(try rw[hc1]);(try rw[hc2]);unfold wD aT at*;generalize LK .i64 []=l0 at*;simp -implicitDefEqProofs [f19,a0,a1,a2,h])
 ·obtain⟨a,rfl,_,_,ha⟩:=Vh hx;obtain⟨b,rfl,_,_,hb⟩:=Vh hy;obtain⟨K,hK,a0,a1,a2,a3⟩:=((tv).j ((tx).j ((ty).j ((Ca.dO (l_ a b (by omega) (by omega))).any)))).at 0;obtain⟨s1,n1,d1,e1,g1⟩:=oC a;obtain⟨s2,n2,d2,e2,g2⟩:=oC b;have ep:=pl3 a b
  by_cases hab:a<b
  ·rw[ep,if_pos hab];rw[decide_eq_true hab,g1,g2]at a3;simp only[e1,e2]at a1 a2 ⊢;clear hK tv tx ty;refine Ca.a_ (n:=K+300) ?_;rw[ah rfl (k19:E1.fn _=_) rfl]
   (try unfold wD at*)
   unfold aT at*;generalize LK .i64 []=l0 at*;simp -implicitDefEqProofs [aA,f19,a0,a1,a2,a3]
  ·rw[ep,if_neg hab];rw[decide_eq_false hab,g1,g2]at a3;simp only[e1,e2]at a1 a2 ⊢;clear hK tv tx ty;refine Ca.a_ (n:=K+300) ?_;rw[ah rfl (k19:E1.fn _=_) rfl]
   (try unfold wD at*)
   unfold aT at*;generalize LK .i64 []=l0 at*;simp -implicitDefEqProofs [aA,f19,a0,a1,a2,a3]
 ·obtain⟨u,rfl,hu⟩:=Yw hx;obtain⟨v,rfl,hv⟩:=Yw hy;obtain⟨K,hK,a0,a1,a2⟩:=((tv).j ((tx).j ((ty).any))).at 0;rw[pl4];have hc1:∀ u,(Sv.s u).w.d=wD false [] [] 0 false u [] []:=fun u=>rfl
  rw[hc1]at a1;rw[hc1]at a2;rw[hc1];clear hK tv tx ty;refine Ca.a_ (n:=K+300) ?_;rw[ah rfl (k19:E1.fn _=_) rfl]
  (try unfold wD at*)
  unfold aT at*;generalize LK .i64 []=l0 at*;simp -implicitDefEqProofs [aA,f19,a0,a1,a2]
 ·obtain⟨a,rfl,ha,la⟩:=Xt hx;obtain⟨b,rfl,hb,lb⟩:=Xt hy;obtain⟨K,hK,a0,a1,a2,a3⟩:=((tv).j ((tx).j ((ty).j ((ui hS1 hS ha hb).any)))).at 0;rw[pl5];simp only[FB]at a1 a2 ⊢;generalize fF a b=c at*;unfold au at*;generalize (a.map fun p=>qC p.1 p.2)=x1,(b.map fun p=>qC p.1 p.2)=x2,(c.map fun p=>qC p.1 p.2)=x3 at*;clear hK tv tx ty;refine Ca.a_ (n:=K+300) ?_;rw[ah rfl (k19:E1.fn _=_) rfl]
  (try unfold wD at*)
  unfold aT at*;generalize LK .i64 []=l0 at*;simp -implicitDefEqProofs [aA,f19,a0,a1,a2,a3]
theorem uk {k:Int}(hk:single k=true){S M:Nat}(hS1:1<=S)(hS:S<=100000){x y:Sv}(hx:x.of k S M)(hy:y.of k S M) :
  Ca E1 19 [.d (aT k []),.d x.w.d,.d y.w.d] (.d (eU k x y).w.d,none):=J3 hk hS1 hS hx hy (ic hk hS1 hS hx) (ic hk hS1 hS hy)
theorem Qk {kk:Int}{ps:List Int}{S M:Nat}{xs ys:List Sv}(hv:aH kk ps=true)(hS1:1<=S)(hS:S<=100000)(hx:lY S M (ky kk ps) xs)(hy:lY S M (ky kk ps) ys){vw ww:W}(tx:Ca E1 53 [.d (aT kk ps),.d vw.d] (.d (jS kk xs).d,none))(ty:Ca E1 53 [.d (aT kk ps),.d ww.d] (.d (jS kk ys).d,none)) :
  Ca E1 19 [.d (aT kk ps),.d vw.d,.d ww.d] (.d (jS kk (qW (ky kk ps) xs ys)).d,none):=by
 have tv:=Ca.dO (Ca.a_ (bG 0 kk ps));rw[hv]at tv;rcases kT hv hx with ⟨hk,rfl,x,rfl,h1⟩|⟨rfl,a,b,x1,x2,rfl,rfl,ha,hb,h1,h2⟩|⟨rfl,a,b,c,x1,x2,x3,rfl,rfl,ha,hb,hc,h1,h2,h3⟩
 ·have h6:=(dh hk).2;rcases kT hv hy with ⟨_,_,y,rfl,g1⟩|⟨h,_⟩|⟨h,_⟩
  ·unfold ky;rw[if_neg h6];rw[mk_one hk]at tx ty;show Ca E1 19 _ (.d (jS kk [eU kk x y]).d,none);rw[mk_one hk];exact J3 hk hS1 hS h1 g1 tx ty
  ·exact absurd h h6
  ·exact absurd h h6
 ·obtain⟨y1,y2,rfl,g1,g2⟩:∃ y1 y2,ys=[y1,y2]/\y1.of a S M/\y2.of b S M:=by
   have hl:=hy.1
   match ys,hl with
   | [y1,y2],_=>exact⟨y1,y2,rfl,hy.2 0 _ _ rfl rfl,hy.2 1 _ _ rfl rfl⟩
  obtain⟨K,hK,a0,a1,a2,b0,b1,p0,p1⟩:=((tv).j ((tx).j ((ty).j ((uk ha hS1 hS h1 g1).j ((uk hb hS1 hS h2 g2).j ((bR 6 [a,b] 0 0 rfl a rfl).j ((bR 6 [a,b] 1 1 rfl b rfl).any))))))).at 0;have e0:∀ l,jS 6 l=cu (l.map Sv.w):=fun _=>rfl
  have e1:qW (ky 6 [a,b]) [x1,x2] [y1,y2]=[eU a x1 y1,eU b x2 y2]:=rfl;rw[e1,e0,jl];rw[e0,jl]at a1 a2;obtain⟨vs,vD,vE,vc,vb,vu,vp,vF,ev⟩:=vw.av;obtain⟨ws,FH,FI,wc,wb,wu,wp,FJ,ew⟩:=ww.av;rw[ev]at a1 ⊢;rw[ew]at a2 ⊢;clear tx ty ev ew;simp only[List.map_cons,List.map_nil]at*;generalize eU a x1 y1=z1,eU b x2 y2=z2 at*;obtain⟨xs1,xm1,xn1,xc1,xb1,xu1,xp1,xq1,FP⟩:=x1.w.av;obtain⟨xs2,xm2,xn2,xc2,xb2,xu2,xp2,xq2,J4⟩:=x2.w.av;obtain⟨ys1,ym1,yn1,yc1,yb1,yu1,yp1,yq1,Ql⟩:=y1.w.av;obtain⟨ys2,ym2,yn2,yc2,yb2,yu2,yp2,yq2,Qm⟩:=y2.w.av;obtain⟨PW,zm1,zn1,zc1,zb1,zu1,zp1,zq1,FQ⟩:=z1.w.av;obtain⟨zs2,zm2,zn2,zc2,zb2,zu2,zp2,zq2,J5⟩:=z2.w.av;simp only[FP,J4,Ql,Qm,FQ,J5]at*;clear hK tv e0 e1 hx hy hv h1 g1 h2 g2 FP J4 Ql Qm FQ J5;refine Ca.a_ (n:=K+500) ?_;rw[ah rfl (k19:E1.fn _=_) rfl];unfold wD aT at*;generalize LK .i64 []=l0 at*;simp only[show LK .i64 [a,b]=[.v (.int .i64 a),.v (.int .i64 b)] from rfl]at*;simp (maxSteps:=500000) -implicitDefEqProofs [aA,f19,a0,a1,a2,b0,b1,p0,p1,most,Qj,wr2,wr3,ae.view]
 ·obtain⟨y1,y2,y3,rfl,g1,g2,g3⟩:∃ y1 y2 y3,ys=[y1,y2,y3]/\y1.of a S M/\y2.of b S M/\y3.of c S M:=by
   have hl:=hy.1
   match ys,hl with
   | [y1,y2,y3],_=>exact⟨y1,y2,y3,rfl,hy.2 0 _ _ rfl rfl,hy.2 1 _ _ rfl rfl,hy.2 2 _ _ rfl rfl⟩
  obtain⟨K,hK,a0,a1,a2,b0,b1,b2,p0,p1,p2⟩:=((tv).j ((tx).j ((ty).j ((uk ha hS1 hS h1 g1).j ((uk hb hS1 hS h2 g2).j ((uk hc hS1 hS h3 g3).j ((bR 6 [a,b,c] 0 0 rfl a rfl).j ((bR 6 [a,b,c] 1 1 rfl b rfl).j ((bR 6 [a,b,c] 2 2 rfl c rfl).any))))))))).at 0;have e0:∀ l,jS 6 l=cu (l.map Sv.w):=fun _=>rfl
  have e1:qW (ky 6 [a,b,c]) [x1,x2,x3] [y1,y2,y3]=[eU a x1 y1,eU b x2 y2,eU c x3 y3]:=rfl;rw[e1,e0,jl];rw[e0,jl]at a1 a2;obtain⟨vs,vD,vE,vc,vb,vu,vp,vF,ev⟩:=vw.av;obtain⟨ws,FH,FI,wc,wb,wu,wp,FJ,ew⟩:=ww.av;rw[ev]at a1 ⊢;rw[ew]at a2 ⊢;clear tx ty ev ew;simp only[List.map_cons,List.map_nil]at*;generalize eU a x1 y1=z1,eU b x2 y2=z2,eU c x3 y3=z3 at*;obtain⟨xs1,xm1,xn1,xc1,xb1,xu1,xp1,xq1,FP⟩:=x1.w.av;obtain⟨xs2,xm2,xn2,xc2,xb2,xu2,xp2,xq2,J4⟩:=x2.w.av;obtain⟨xs3,xm3,xn3,xc3,xb3,xu3,xp3,xq3,ZY⟩:=x3.w.av;obtain⟨ys1,ym1,yn1,yc1,yb1,yu1,yp1,yq1,Ql⟩:=y1.w.av;obtain⟨ys2,ym2,yn2,yc2,yb2,yu2,yp2,yq2,Qm⟩:=y2.w.av;obtain⟨ys3,ym3,yn3,yc3,yb3,yu3,yp3,yq3,ZZ⟩:=y3.w.av;obtain⟨PW,zm1,zn1,zc1,zb1,zu1,zp1,zq1,FQ⟩:=z1.w.av;obtain⟨zs2,zm2,zn2,zc2,zb2,zu2,zp2,zq2,J5⟩:=z2.w.av;obtain⟨zs3,zm3,zn3,zc3,zb3,zu3,zp3,zq3,Z0⟩:=z3.w.av;simp only[FP,J4,ZY,Ql,Qm,ZZ,FQ,J5,Z0]at*;clear hK tv e0 e1 hx hy hv h1 g1 h2 g2 h3 g3 FP J4 ZY Ql Qm ZZ FQ J5 Z0;refine Ca.a_ (n:=K+500) ?_;rw[ah rfl (k19:E1.fn _=_) rfl];unfold wD aT at*;generalize LK .i64 []=l0 at*;simp only[show LK .i64 [a,b,c]=[.v (.int .i64 a),.v (.int .i64 b),.v (.int .i64 c)] from rfl]at*;simp (maxSteps:=500000) -implicitDefEqProofs [aA,f19,a0,a1,a2,b0,b1,b2,p0,p1,p2,most,Qj,wr2,wr3,ae.view]
theorem FR {k:Int}(hk:single k=true){S M N:Nat}(hS1:1<=S)(hS:S<=100000)(hm:(M*N+N)*(2*S+1)<=4000000){x y:Sv}(hx:x.of k S M)(hy:y.of k S N){vw ww:W}(tx:Ca E1 53 [.d (aT k []),.d vw.d] (.d x.w.d,none))(ty:Ca E1 53 [.d (aT k []),.d ww.d] (.d y.w.d,none)) :
  Ca E1 21 [.d (aT k []),.d vw.d,.d ww.d] (.d (dQ x y).w.d,none):=by
 have tv:=Ca.dO (Ca.a_ (bG 0 k []));rw[(dh hk).1]at tv;obtain⟨vs,vD,vE,vc,vb,vu,vp,vF,ev⟩:=vw.av;obtain⟨ws,FH,FI,wc,wb,wu,wp,FJ,ew⟩:=ww.av;rw[ev]at tx ⊢;rw[ew]at ty ⊢;clear ev ew;rcases aM hk with rfl|rfl|rfl|rfl|rfl
 ·obtain⟨a,rfl,ha⟩:=Xr hx;obtain⟨b,rfl,hb⟩:=Xr hy;obtain⟨K,hK,a0,a1,a2,a3⟩:=((tv).j ((tx).j ((ty).j ((Ca.dO (C8 a b (by omega) (by omega))).any)))).at 0;obtain⟨s1,n1,d1,e1,g1⟩:=oC a;obtain⟨s2,n2,d2,e2,g2⟩:=oC b;rw[ti1];obtain⟨s3,n3,d3,e3,g3⟩:=oC (a*b);rw[g1,g2,g3]at a3;rw[e1]at a1;rw[e2]at a2;rw[e3];clear hK tv tx ty;refine Ca.a_ (n:=K+300) ?_;rw[ah rfl (k21:E1.fn _=_) rfl]
  (try unfold wD at*)
  unfold aT at*;generalize LK .i64 []=l0 at*;simp -implicitDefEqProofs [aA,f21,a0,a1,a2,a3]
 ·obtain⟨i,n,rfl,hn0,hn1,hin⟩:=Vg hx;obtain⟨j,m,rfl,hm0,hm1,hjm⟩:=Vg hy;obtain⟨K,hK,a0,a1,a2⟩:=((tv).j ((tx).j ((ty).any))).at 0;rw[ti2];have w1:af .i64 (n+m)=n+m:=wrap_i64 (by omega);have hc1:∀ i n,(Sv.c i n).w.d=wD false [] [] n i 0 [] []:=fun i n=>rfl
  rw[hc1]at a1;rw[hc1]at a2;cases i<;>cases j<;>by_cases h:1099511627776<n+m<;>simp only[h,Bool.true_or,Bool.false_or,Bool.or_true,decide_true,decide_false,if_true,if_false,Bool.false_eq_true,Bool.or_false,hc1] <;>
  (clear hK tv tx ty;refine Ca.a_ (n:=K+300) ?_;rw[ah rfl (k21:E1.fn _=_) rfl];unfold wD aT at*;generalize LK .i64 []=l0 at*;simp -implicitDefEqProofs [f21,a0,a1,a2,h,w1])
 ·obtain⟨a,rfl,_,_,ha⟩:=Vh hx;obtain⟨b,rfl,_,_,hb⟩:=Vh hy;obtain⟨K,hK,a0,a1,a2,a3⟩:=((tv).j ((tx).j ((ty).j ((Ca.dO (C8 a b (by omega) (by omega))).any)))).at 0;obtain⟨s1,n1,d1,e1,g1⟩:=oC a;obtain⟨s2,n2,d2,e2,g2⟩:=oC b;rw[ti1];obtain⟨s3,n3,d3,e3,g3⟩:=oC (a*b);rw[g1,g2,g3]at a3;rw[e1]at a1;rw[e2]at a2;rw[e3];clear hK tv tx ty;refine Ca.a_ (n:=K+300) ?_;rw[ah rfl (k21:E1.fn _=_) rfl]
  (try unfold wD at*)
  unfold aT at*;generalize LK .i64 []=l0 at*;simp -implicitDefEqProofs [aA,f21,a0,a1,a2,a3]
 ·obtain⟨u,rfl,hu⟩:=Yw hx;obtain⟨v,rfl,hv⟩:=Yw hy;obtain⟨K,hK,a0,a1,a2⟩:=((tv).j ((tx).j ((ty).any))).at 0;rw[ti4];have hc1:∀ u,(Sv.s u).w.d=wD false [] [] 0 false u [] []:=fun u=>rfl
  rw[hc1]at a1;rw[hc1]at a2;rw[hc1];clear hK tv tx ty;refine Ca.a_ (n:=K+300) ?_;rw[ah rfl (k21:E1.fn _=_) rfl]
  (try unfold wD at*)
  unfold aT at*;generalize LK .i64 []=l0 at*;simp -implicitDefEqProofs [aA,f21,a0,a1,a2]
 ·obtain⟨a,rfl,ha,la⟩:=Xt hx;obtain⟨b,rfl,hb,lb⟩:=Xt hy;obtain⟨K,hK,a0,a1,a2,a3⟩:=((tv).j ((tx).j ((ty).j ((zy hS1 hS ha hb (Nat.le_trans (Nat.mul_le_mul_right _ (Nat.add_le_add (Nat.mul_le_mul la lb) lb)) hm)).any)))).at 0;rw[ti5];simp only[FB]at a1 a2 ⊢;generalize dU a b=c at*;unfold au at*;generalize (a.map fun p=>qC p.1 p.2)=x1,(b.map fun p=>qC p.1 p.2)=x2,(c.map fun p=>qC p.1 p.2)=x3 at*;clear hK tv tx ty;refine Ca.a_ (n:=K+300) ?_;rw[ah rfl (k21:E1.fn _=_) rfl]
  (try unfold wD at*)
  unfold aT at*;generalize LK .i64 []=l0 at*;simp -implicitDefEqProofs [aA,f21,a0,a1,a2,a3]
theorem pG {k:Int}(hk:single k=true){S M N:Nat}(hS1:1<=S)(hS:S<=100000)(hm:(M*N+N)*(2*S+1)<=4000000){x y:Sv}(hx:x.of k S M)(hy:y.of k S N) :
  Ca E1 21 [.d (aT k []),.d x.w.d,.d y.w.d] (.d (dQ x y).w.d,none):=FR hk hS1 hS hm hx hy (ic hk hS1 hS hx) (ic hk hS1 hS hy)
theorem LW {kk:Int}{ps:List Int}{S M N:Nat}{xs ys:List Sv}(hv:aH kk ps=true)(hS1:1<=S)(hS:S<=100000)(hm:(M*N+N)*(2*S+1)<=4000000)(hx:lY S M (ky kk ps) xs)(hy:lY S N (ky kk ps) ys){vw ww:W}(tx:Ca E1 53 [.d (aT kk ps),.d vw.d] (.d (jS kk xs).d,none))(ty:Ca E1 53 [.d (aT kk ps),.d ww.d] (.d (jS kk ys).d,none)) :
  Ca E1 21 [.d (aT kk ps),.d vw.d,.d ww.d] (.d (jS kk (nH xs ys)).d,none):=by
 have tv:=Ca.dO (Ca.a_ (bG 0 kk ps));rw[hv]at tv;rcases kT hv hx with ⟨hk,rfl,x,rfl,h1⟩|⟨rfl,a,b,x1,x2,rfl,rfl,ha,hb,h1,h2⟩|⟨rfl,a,b,c,x1,x2,x3,rfl,rfl,ha,hb,hc,h1,h2,h3⟩
 ·have h6:=(dh hk).2;rcases kT hv hy with ⟨_,_,y,rfl,g1⟩|⟨h,_⟩|⟨h,_⟩
  ·rw[mk_one hk]at tx ty;show Ca E1 21 _ (.d (jS kk [dQ x y]).d,none);rw[mk_one hk];exact FR hk hS1 hS hm h1 g1 tx ty
  ·exact absurd h h6
  ·exact absurd h h6
 ·obtain⟨y1,y2,rfl,g1,g2⟩:∃ y1 y2,ys=[y1,y2]/\y1.of a S N/\y2.of b S N:=by
   have hl:=hy.1
   match ys,hl with
   | [y1,y2],_=>exact⟨y1,y2,rfl,hy.2 0 _ _ rfl rfl,hy.2 1 _ _ rfl rfl⟩
  obtain⟨K,hK,a0,a1,a2,b0,b1,p0,p1⟩:=((tv).j ((tx).j ((ty).j ((pG ha hS1 hS hm h1 g1).j ((pG hb hS1 hS hm h2 g2).j ((bR 6 [a,b] 0 0 rfl a rfl).j ((bR 6 [a,b] 1 1 rfl b rfl).any))))))).at 0;have e0:∀ l,jS 6 l=cu (l.map Sv.w):=fun _=>rfl
  have e1:nH [x1,x2] [y1,y2]=[dQ x1 y1,dQ x2 y2]:=rfl;rw[e1,e0,jl];rw[e0,jl]at a1 a2;obtain⟨vs,vD,vE,vc,vb,vu,vp,vF,ev⟩:=vw.av;obtain⟨ws,FH,FI,wc,wb,wu,wp,FJ,ew⟩:=ww.av;rw[ev]at a1 ⊢;rw[ew]at a2 ⊢;clear tx ty ev ew;simp only[List.map_cons,List.map_nil]at*;generalize dQ x1 y1=z1,dQ x2 y2=z2 at*;obtain⟨xs1,xm1,xn1,xc1,xb1,xu1,xp1,xq1,FP⟩:=x1.w.av;obtain⟨xs2,xm2,xn2,xc2,xb2,xu2,xp2,xq2,J4⟩:=x2.w.av;obtain⟨ys1,ym1,yn1,yc1,yb1,yu1,yp1,yq1,Ql⟩:=y1.w.av;obtain⟨ys2,ym2,yn2,yc2,yb2,yu2,yp2,yq2,Qm⟩:=y2.w.av;obtain⟨PW,zm1,zn1,zc1,zb1,zu1,zp1,zq1,FQ⟩:=z1.w.av;obtain⟨zs2,zm2,zn2,zc2,zb2,zu2,zp2,zq2,J5⟩:=z2.w.av;simp only[FP,J4,Ql,Qm,FQ,J5]at*;clear hK tv e0 e1 hx hy hv h1 g1 h2 g2 FP J4 Ql Qm FQ J5;refine Ca.a_ (n:=K+500) ?_;rw[ah rfl (k21:E1.fn _=_) rfl];unfold wD aT at*;generalize LK .i64 []=l0 at*;simp only[show LK .i64 [a,b]=[.v (.int .i64 a),.v (.int .i64 b)] from rfl]at*;simp (maxSteps:=500000) -implicitDefEqProofs [aA,f21,a0,a1,a2,b0,b1,p0,p1,most,Qj,wr2,wr3,ae.view]
 ·obtain⟨y1,y2,y3,rfl,g1,g2,g3⟩:∃ y1 y2 y3,ys=[y1,y2,y3]/\y1.of a S N/\y2.of b S N/\y3.of c S N:=by
   have hl:=hy.1
   match ys,hl with
   | [y1,y2,y3],_=>exact⟨y1,y2,y3,rfl,hy.2 0 _ _ rfl rfl,hy.2 1 _ _ rfl rfl,hy.2 2 _ _ rfl rfl⟩
  obtain⟨K,hK,a0,a1,a2,b0,b1,b2,p0,p1,p2⟩:=((tv).j ((tx).j ((ty).j ((pG ha hS1 hS hm h1 g1).j ((pG hb hS1 hS hm h2 g2).j ((pG hc hS1 hS hm h3 g3).j ((bR 6 [a,b,c] 0 0 rfl a rfl).j ((bR 6 [a,b,c] 1 1 rfl b rfl).j ((bR 6 [a,b,c] 2 2 rfl c rfl).any))))))))).at 0;have e0:∀ l,jS 6 l=cu (l.map Sv.w):=fun _=>rfl
  have e1:nH [x1,x2,x3] [y1,y2,y3]=[dQ x1 y1,dQ x2 y2,dQ x3 y3]:=rfl;rw[e1,e0,jl];rw[e0,jl]at a1 a2;obtain⟨vs,vD,vE,vc,vb,vu,vp,vF,ev⟩:=vw.av;obtain⟨ws,FH,FI,wc,wb,wu,wp,FJ,ew⟩:=ww.av;rw[ev]at a1 ⊢;rw[ew]at a2 ⊢;clear tx ty ev ew;simp only[List.map_cons,List.map_nil]at*;generalize dQ x1 y1=z1,dQ x2 y2=z2,dQ x3 y3=z3 at*;obtain⟨xs1,xm1,xn1,xc1,xb1,xu1,xp1,xq1,FP⟩:=x1.w.av;obtain⟨xs2,xm2,xn2,xc2,xb2,xu2,xp2,xq2,J4⟩:=x2.w.av;obtain⟨xs3,xm3,xn3,xc3,xb3,xu3,xp3,xq3,ZY⟩:=x3.w.av;obtain⟨ys1,ym1,yn1,yc1,yb1,yu1,yp1,yq1,Ql⟩:=y1.w.av;obtain⟨ys2,ym2,yn2,yc2,yb2,yu2,yp2,yq2,Qm⟩:=y2.w.av;obtain⟨ys3,ym3,yn3,yc3,yb3,yu3,yp3,yq3,ZZ⟩:=y3.w.av;obtain⟨PW,zm1,zn1,zc1,zb1,zu1,zp1,zq1,FQ⟩:=z1.w.av;obtain⟨zs2,zm2,zn2,zc2,zb2,zu2,zp2,zq2,J5⟩:=z2.w.av;obtain⟨zs3,zm3,zn3,zc3,zb3,zu3,zp3,zq3,Z0⟩:=z3.w.av;simp only[FP,J4,ZY,Ql,Qm,ZZ,FQ,J5,Z0]at*;clear hK tv e0 e1 hx hy hv h1 g1 h2 g2 h3 g3 FP J4 ZY Ql Qm ZZ FQ J5 Z0;refine Ca.a_ (n:=K+500) ?_;rw[ah rfl (k21:E1.fn _=_) rfl];unfold wD aT at*;generalize LK .i64 []=l0 at*;simp only[show LK .i64 [a,b,c]=[.v (.int .i64 a),.v (.int .i64 b),.v (.int .i64 c)] from rfl]at*;simp (maxSteps:=500000) -implicitDefEqProofs [aA,f21,a0,a1,a2,b0,b1,b2,p0,p1,p2,most,Qj,wr2,wr3,ae.view]
theorem qE {k:Int}(hk:single k=true):Ca E1 35 [.d (aT k [])] (.d (gX k).w.d,none):=by
 have tv:=Ca.dO (Ca.a_ (bG 0 k []));rw[(dh hk).1]at tv;have e2:∀ b,W.d (.mk false [] [] 0 b 0 [] [])=wD false [] [] 0 b 0 [] []:=fun _=>rfl
 have eq0:(Sv.q 0).w.d=wD false [] [] 0 false 0 [] []:=by
  have h:=iM;obtain⟨s,n,d,e1,g1⟩:=oC 0;rw[e1];rw[g1]at h;simp only[D.a.injEq,List.cons.injEq,D.v.injEq,Value.bool.injEq,D.s.injEq,true_and,and_true]at h;obtain⟨rfl,rfl,rfl⟩:=h;rfl
 have e:(gX k).w.d=wD false [] [] 0 (k==2) 0 [] []:=by
  rcases aM hk with rfl|rfl|rfl|rfl|rfl
  ·exact eq0
  ·exact e2 _
  ·exact eq0
  ·exact e2 _
  ·exact e2 _
 rw[e];obtain⟨m0,a0⟩:=(tv).any;clear e e2 eq0 tv;refine Ca.a_ (n:=m0+300) ?_;replace a0:=a0 m0 (by omega);rw[ah rfl (k35:E1.fn _=_) rfl];unfold wD aT at*;simp only[show LK .i64 []=[] from rfl]at*;rcases aM hk with rfl|rfl|rfl|rfl|rfl<;>simp -implicitDefEqProofs [aA,f35,a0]
theorem Ub {kk:Int}{ps:List Int}(hv:aH kk ps=true):Ca E1 35 [.d (aT kk ps)] (.d (jS kk ((ky kk ps).map gX)).d,none):=by
 have h:lY 1 1 (ky kk ps) ((ky kk ps).map gX):=BK (by omega) (mG hv);have tv:=Ca.dO (Ca.a_ (bG 0 kk ps));rw[hv]at tv;have e0:∀ l,jS 6 l=cu (l.map Sv.w):=fun _=>rfl
 rcases kT hv h with ⟨hk,rfl,x,hxs,hx⟩|⟨rfl,a,b,x,y,rfl,hxs,ha,hb,hx,hy⟩|⟨rfl,a,b,c,x,y,z,rfl,hxs,ha,hb,hc,hx,hy,hz⟩
 ·rw[show ky kk []=[kk] from if_neg (dh hk).2,List.map_cons,List.map_nil,mk_one hk];exact qE hk
 ·clear h hxs;rw[show ky 6 [a,b]=[a,b] from rfl,e0,jl];simp only[List.map_cons,List.map_nil];obtain⟨K,hK,a0,b0,p0,b1,p1⟩:=(tv.j ((qE ha).j ((bR 6 [a,b] 0 0 rfl a rfl).j ((qE hb).j ((bR 6 [a,b] 1 1 rfl b rfl).any))))).at 0;obtain⟨s0,l0,r0,c0,i0,u0,o0,g0,Z4⟩:=(gX a).w.av;obtain⟨s1,l1,r1,c1,i1,u1,o1,g1,Z5⟩:=(gX b).w.av;simp only[Z4,Z5]at*;clear hK tv e0 hv hx hy Z4 Z5;refine Ca.a_ (n:=K+500) ?_;rw[ah rfl (k35:E1.fn _=_) rfl];unfold wD aT at*;generalize LK .i64 []=l0 at*;simp only[show LK .i64 [a,b]=[.v (.int .i64 a),.v (.int .i64 b)] from rfl]at*;simp (maxSteps:=500000) -implicitDefEqProofs [aA,f35,a0,b0,p0,b1,p1,most,Qj,wr2,wr3,ae.view]
 ·clear h hxs;rw[show ky 6 [a,b,c]=[a,b,c] from rfl,e0,jl];simp only[List.map_cons,List.map_nil];obtain⟨K,hK,a0,b0,p0,b1,p1,b2,p2⟩:=(tv.j ((qE ha).j ((bR 6 [a,b,c] 0 0 rfl a rfl).j ((qE hb).j ((bR 6 [a,b,c] 1 1 rfl b rfl).j ((qE hc).j ((bR 6 [a,b,c] 2 2 rfl c rfl).any))))))).at 0;obtain⟨s0,l0,r0,c0,i0,u0,o0,g0,Z4⟩:=(gX a).w.av;obtain⟨s1,l1,r1,c1,i1,u1,o1,g1,Z5⟩:=(gX b).w.av;obtain⟨s2,l2,r2,c2,i2,u2,o2,g2,e2x⟩:=(gX c).w.av;simp only[Z4,Z5,e2x]at*;clear hK tv e0 hv hx hy hz Z4 Z5 e2x;refine Ca.a_ (n:=K+500) ?_;rw[ah rfl (k35:E1.fn _=_) rfl];unfold wD aT at*;generalize LK .i64 []=l0 at*;simp only[show LK .i64 [a,b,c]=[.v (.int .i64 a),.v (.int .i64 b),.v (.int .i64 c)] from rfl]at*;simp (maxSteps:=500000) -implicitDefEqProofs [aA,f35,a0,b0,p0,b1,p1,b2,p2,most,Qj,wr2,wr3,ae.view]
theorem Uc {kk:Int}{ps:List Int}(hv:aH kk ps=true){w:W}(hw:w.OK)(h:iJ kk ps w=false):Ca E1 53 [.d (aT kk ps),.d w.d] (.d (jS kk ((ky kk ps).map gX)).d,none):=by
 have hc:=Ca.dO (uY kk ps w (Du hv) hw);rw[h]at hc;obtain⟨K,hK,a0,a1⟩:=(hc.j ((Ub hv).any)).at 0;generalize jS kk ((ky kk ps).map gX)=z at*;obtain⟨vs,vD,vE,vc,vb,vu,vp,vF,ev⟩:=w.av;obtain⟨zs,wH,wI,zc,zb,zu,zp,wJ,ez⟩:=z.av;simp only[ev,ez]at a0 a1 ⊢;clear hc hK ev ez h hw hv;refine Ca.a_ (n:=K+200) ?_;rw[ah rfl (k53:E1.fn _=_) rfl];unfold wD aT at*;generalize LK .i64 ps=l0 at*;simp -implicitDefEqProofs [aA,f53,a0,a1]
theorem Qn {kk:Int}{ps:List Int}(hv:aH kk ps=true){w:W}(ht:w.uZ)(hl:w.bI=true)(hc:iJ kk ps w=true):∃ xs,lY 3 8 (ky kk ps) xs/\w=jS kk xs:=by
 have hs:=mG hv;unfold iJ at hc;rw[hv]at hc
 by_cases h6:kk=6
 ·subst h6;simp only[Bool.true_and,ne_eq,not_true_eq_false,if_false,Bool.and_eq_true,beq_iff_eq]at hc;obtain⟨⟨h1,h2⟩,h4⟩:=hc;obtain⟨xs,hxs,hof⟩:=BG hs h1 (Io ht hl) h4;refine⟨xs,hof,?_⟩;rw[LH h2,hxs];rfl
 ·obtain⟨rfl,hk⟩:=kz hv h6;simp only[Bool.true_and,ne_eq,h6,not_false_eq_true,if_true]at hc;obtain⟨h1,h2⟩:=zC w ht hl;obtain⟨x,rfl,hx⟩:=P9 hk (by omega) h1 h2 hc;exact⟨[x],xG hk hx,(mk_one hk x).symm⟩
theorem pI {kk:Int}{ps:List Int}(hv:aH kk ps=true){w:W}(ht:w.uZ)(hl:w.bI=true):∃ xs,lY 3 8 (ky kk ps) xs/\Ca E1 41 [.d (aT kk ps),.d w.d] (.d (jS kk xs).d,none)/\Ca E1 53 [.d (aT kk ps),.d w.d] (.d (jS kk xs).d,none):=by
 have hw:=EP w ht hl
 by_cases hc:iJ kk ps w=true
 ·have hx:∃ xs,lY 3 8 (ky kk ps) xs/\w=jS kk xs:=Qn hv ht hl hc;obtain⟨xs,hx,rfl⟩:=hx;exact⟨xs,hx,Qh hv (by omega) hx,Ua hv (by omega) (by omega) hx⟩
 ·simp only[Bool.not_eq_true]at hc;exact⟨_,BK (by omega) (mG hv),FL (Du hv) hw hc (LU hv),Uc hv hw hc⟩
end Fi.S
