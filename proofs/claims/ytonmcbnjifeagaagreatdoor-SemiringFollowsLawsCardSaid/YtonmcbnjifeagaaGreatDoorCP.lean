/- SemiringFollowsLaws: its body. -/
import Derived.Test.YtonmcbnjifeagaaGreatDoorCO
set_option linter.unusedVariables false
set_option linter.unusedSimpArgs false
noncomputable section
namespace Fi.S
open Go Fi
set_option maxHeartbeats 1000000
theorem addE_comm (a b:Ex3):addE a b=addE b a:=by simp [addE,Int.add_comm]
theorem addE_assoc (a b c:Ex3):addE (addE a b) c=addE a (addE b c):=by simp [addE,Int.add_assoc]
theorem addP_comm {S:Nat}(hS:1≤S){a b:List Ent}(ha:PV S a)(hb:PV S b):addP a b=addP b a :=
 PV.ext (addP_pv2 hS hS ha hb) (addP_pv2 hS hS hb ha) (fun e=>by rw [addP_tot,addP_tot]; grind)
theorem addP_assoc {S:Nat}(hS:1≤S){a b c:List Ent}(ha:PV S a)(hb:PV S b)(hc:PV S c):addP (addP a b) c=addP a (addP b c) :=
 PV.ext (addP_pv2 (by omega) hS (addP_pv2 hS hS ha hb) hc) (addP_pv2 hS (by omega) ha (addP_pv2 hS hS hb hc)) (fun e=>by simp only [addP_tot]; grind)
theorem addP_nil {S:Nat}(hS:1≤S){a:List Ent}(ha:PV S a):addP a []=a :=
 PV.ext (addP_pv2 hS hS ha (PV.nil S)) ha (fun e=>by rw [addP_tot]; simp only [tot]; grind)
def cv (a:List Ent)(f:Ex3→Rat)(e:Ex3):Rat:=match a with
 | []=>0
 | p::r=>p.2*f (e.1-p.1.1,e.2.1-p.1.2.1,e.2.2-p.1.2.2)+cv r f e
def subE (e a:Ex3):Ex3:=(e.1-a.1,e.2.1-a.2.1,e.2.2-a.2.2)
theorem addE_eq (a b e:Ex3):addE a b=e↔b=subE e a:=by
 obtain ⟨a1,a2,a3⟩:=a
 obtain ⟨b1,b2,b3⟩:=b
 obtain ⟨e1,e2,e3⟩:=e
 simp only [addE,subE,Prod.mk.injEq]
 omega
theorem pairP_tot (p:Ent)(e:Ex3):∀ b:List Ent,tot (pairP p b) e=p.2*tot b (subE e p.1)
 | []=>by simp only [pairP,List.map_nil,tot]; grind
 | q::r=>by
  have ih:=pairP_tot p e r
  have h1:pairP p (q::r)=(addE p.1 q.1,p.2*q.2)::pairP p r:=rfl
  obtain ⟨qe,y⟩:=q
  rw [h1]
  simp only [tot,ih]
  by_cases h:addE p.1 qe=e
  ·rw [if_pos h,if_pos ((addE_eq _ _ _).1 h)]; grind
  ·rw [if_neg h,if_neg (fun h2=>h ((addE_eq _ _ _).2 h2))]; grind
theorem pairE_tot (b:List Ent)(e:Ex3):∀ a:List Ent,tot (pairE a b) e=cv a (tot b) e
 | []=>rfl
 | p::a=>by
  have h1:pairE (p::a) b=pairP p b++pairE a b:=by simp [pairE]
  rw [h1,tot_append,pairE_tot b e a,pairP_tot]
  rfl
theorem tot_fits (l:List Ent)(e:Ex3):tot (l.filter fun p=>fitsE p.1) e=if fitsE e=true then tot l e else 0:=by
 induction l with
 | nil=>simp [tot]
 | cons p r ih =>
  obtain ⟨a,y⟩:=p
  by_cases h:fitsE a=true
  ·rw [List.filter_cons_of_pos (p:=fun p:Ent=>fitsE p.1) h]
   simp only [tot,ih]
   by_cases h2:a=e
   ·subst h2; simp [h]
   ·simp only [if_neg h2]
    split<;>grind
  ·rw [List.filter_cons_of_neg (p:=fun p:Ent=>fitsE p.1) h,ih]
   simp only [tot]
   by_cases h2:a=e
   ·subst h2; simp [h]
   ·simp only [if_neg h2]
    split<;>grind
theorem mulP_cv (a b:List Ent)(e:Ex3):tot (mulP a b) e=if fitsE e=true then cv a (tot b) e else 0:=by
 rw [mulP_tot,← pairE_filter,tot_fits,pairE_tot]
theorem cv_add (f g:Ex3→Rat)(e:Ex3):∀ a,cv a (fun x=>f x+g x) e=cv a f e+cv a g e
 | []=>by simp only [cv]; grind
 | p::a=>by simp only [cv,cv_add f g e a]; grind
theorem tot_pair_comm (e:Ex3):∀ a b:List Ent,tot (pairE a b) e=tot (pairE b a) e:=by
 have nilr:∀ a:List Ent,pairE a []=[]:=fun a=>by
  induction a with
  | nil=>rfl
  | cons p r ih =>
   have h1:pairE (p::r) []=pairP p []++pairE r []:=by simp [pairE]
   rw [h1,ih]; rfl
 have consr:∀ (q:Ent) (b a:List Ent),tot (pairE a (q::b)) e=tot (pairP q a) e+tot (pairE a b) e:=by
  intro q b a
  induction a with
  | nil=>simp only [pairE,pairP,List.flatMap_nil,List.map_nil,tot]; grind
  | cons p r ih =>
   have h1:pairE (p::r) (q::b)=pairP p (q::b)++pairE r (q::b):=by simp [pairE]
   have h2:pairE (p::r) b=pairP p b++pairE r b:=by simp [pairE]
   have h3:pairP p (q::b)=(addE p.1 q.1,p.2*q.2)::pairP p b:=rfl
   have h4:pairP q (p::r)=(addE q.1 p.1,q.2*p.2)::pairP q r:=rfl
   rw [h1,h2,tot_append,tot_append,h3,h4,ih]
   simp only [tot,addE_comm q.1 p.1]
   grind
 intro a
 induction a with
 | nil=>intro b; rw [nilr]; rfl
 | cons p r ih =>
  intro b
  have h1:pairE (p::r) b=pairP p b++pairE r b:=by simp [pairE]
  rw [h1,tot_append,consr,ih]
theorem mulP_comm {S:Nat}(hS:1≤S){a b:List Ent}(ha:PV S a)(hb:PV S b):mulP a b=mulP b a :=
 PV.ext (mulP_pv hS ha hb) (mulP_pv hS hb ha) (fun e=>by
  rw [mulP_tot,mulP_tot,← pairE_filter,← pairE_filter,tot_fits,tot_fits,tot_pair_comm])
theorem mulP_add {S:Nat}(hS:1≤S){a b c:List Ent}(ha:PV S a)(hb:PV S b)(hc:PV S c):mulP a (addP b c)=addP (mulP a b) (mulP a c):=by
 have h1:=addP_pv2 hS hS hb hc
 refine PV.ext (mulP_pv hS ha h1) (addP_pv2 (by omega) (by omega) (mulP_pv hS ha hb) (mulP_pv hS ha hc)) (fun e => ?_)
 rw [addP_tot,mulP_cv,mulP_cv,mulP_cv]
 have h2:tot (addP b c)=fun x=>tot b x+tot c x:=by funext x; exact addP_tot b c x
 rw [h2,cv_add]
 split<;>grind
theorem pairP_pairE (p:Ent)(c:List Ent):∀ b:List Ent,pairE (pairP p b) c=pairP p (pairE b c)
 | []=>rfl
 | q::b=>by
  have h1:pairP p (q::b)=(addE p.1 q.1,p.2*q.2)::pairP p b:=rfl
  have h2:∀ (x:Ent) (r:List Ent),pairE (x::r) c=pairP x c++pairE r c:=fun x r=>by simp [pairE]
  rw [h1,h2,h2,pairP_pairE p c b]
  have h3:pairP p (pairP q c++pairE b c)=pairP p (pairP q c)++pairP p (pairE b c):=by simp [pairP]
  rw [h3]
  congr 1
  unfold pairP
  rw [List.map_map]
  refine List.map_congr_left fun r _ => ?_
  simp only [Function.comp,addE_assoc,Rat.mul_assoc]
theorem pairE_assoc (b c:List Ent):∀ a:List Ent,pairE (pairE a b) c=pairE a (pairE b c)
 | []=>rfl
 | p::a=>by
  have h1:pairE (p::a) b=pairP p b++pairE a b:=by simp [pairE]
  have h2:pairE (p::a) (pairE b c)=pairP p (pairE b c)++pairE a (pairE b c):=by simp [pairE]
  have h3:pairE (pairP p b++pairE a b) c=pairE (pairP p b) c++pairE (pairE a b) c:=by simp [pairE,List.flatMap_append]
  rw [h1,h2,h3,pairP_pairE,pairE_assoc b c a]
theorem cv_congr {f g:Ex3→Rat}{e:Ex3}:∀ {a:List Ent},(∀ p ∈ a,f (subE e p.1)=g (subE e p.1))→cv a f e=cv a g e
 | [],_=>rfl
 | p::a,h=>by
  have h1:=h p (List.mem_cons_self ..)
  have h2:=cv_congr (a:=a) (fun q hq=>h q (List.mem_cons_of_mem _ hq))
  show p.2*f (subE e p.1)+cv a f e=p.2*g (subE e p.1)+cv a g e
  rw [h1,h2]
theorem mul_inner {a b:List Ent}(ha:Fits a)(hb:Fits b){c e:Ex3}(hc:fitsE c=true)(he:fitsE e=true):tot (mulP a b) (subE e c)=tot (pairE a b) (subE e c):=by
 rw [mulP_cv,pairE_tot]
 split
 ·rfl
 ·rename_i hf
  rw [← pairE_tot]
  symm
  refine tot_not fun x hx hxe => ?_
  obtain ⟨p,hp,hx⟩:=List.mem_flatMap.1 hx
  obtain ⟨q,hq,rfl⟩:=List.mem_map.1 hx
  have h1:=fits_range (ha p hp)
  have h2:=fits_range (hb q hq)
  have h3:=fits_range hc
  have h4:=fits_range he
  apply hf
  rw [fits_iff,← hxe]
  have h5:addE p.1 q.1=subE e c:=hxe
  simp only [addE,subE,Prod.mk.injEq] at h5 ⊢
  omega
theorem mulP_assoc {S:Nat}(hS:1≤S){a b c:List Ent}(ha:PV S a)(hb:PV S b)(hc:PV S c):mulP (mulP a b) c=mulP a (mulP b c):=by
 have h1:=mulP_pv hS ha hb
 have h2:=mulP_pv hS hb hc
 refine PV.ext (mulP_pv (by omega) h1 hc) (mulP_pv hS ha h2) (fun e => ?_)
 rw [mulP_cv,mulP_cv]
 split
 ·rename_i he
  rw [← pairE_tot,tot_pair_comm,pairE_tot,cv_congr (g:=tot (pairE a b)) (fun p hp=>mul_inner ha.fits hb.fits (hc.fits p hp) he),← pairE_tot,tot_pair_comm,pairE_assoc,pairE_tot]
  exact cv_congr fun p hp=>(mul_inner hb.fits hc.fits (ha.fits p hp) he).symm
 ·rfl
theorem mulP_one {S:Nat}(hS:1≤S){a:List Ent}(ha:PV S a)(h1:PV S (constP 1)):mulP a (constP 1)=a:=by
 refine PV.ext (mulP_pv hS ha h1) ha (fun e => ?_)
 have hc:constP 1=[((0,0,0),1)]:=if_neg (by decide)
 rw [mulP_cv,← pairE_tot,tot_pair_comm,hc,pairE_tot]
 have h2:cv [((0,0,0),(1:Rat))] (tot a) e=tot a e:=by
  simp only [cv]
  have h3:((e.1-0,e.2.1-0,e.2.2-0):Ex3)=e:=by
   obtain ⟨x,y,z⟩:=e
   simp
  rw [h3]; grind
 rw [h2]
 split
 ·rfl
 ·rename_i hf
  exact (tot_not fun p hp hpe=>hf (by rw [← hpe]; exact ha.fits p hp)).symm
theorem wrap_nat64 (x:BitVec 64):IntKind.wrap .u64 (x.toNat:Int)=(x.toNat:Int):=by
 have h:=x.isLt
 rw [← wrapS_eq]
 exact wrap_u64 (by omega)
theorem or_nat (u v:Int):orV .u64 u v=((BitVec.ofInt 64 u ||| BitVec.ofInt 64 v).toNat:Int):=by
 rw [orV_eq]
 exact wrap_nat64 _
theorem and_nat (u v:Int):andV .u64 u v=((BitVec.ofInt 64 u &&& BitVec.ofInt 64 v).toNat:Int):=by
 rw [andV_eq]
 exact wrap_nat64 _
theorem of_nat64 (x:BitVec 64):BitVec.ofInt 64 (x.toNat:Int)=x:=by simp
theorem u_nat {u:Int}(h:u64r u):((BitVec.ofInt 64 u).toNat:Int)=u:=by
 unfold u64r at h
 rw [BitVec.toNat_ofInt]
 omega
theorem or_comm (u v:Int):orV .u64 u v=orV .u64 v u:=by rw [or_nat,or_nat,BitVec.or_comm]
theorem and_comm (u v:Int):andV .u64 u v=andV .u64 v u:=by rw [and_nat,and_nat,BitVec.and_comm]
theorem or_assoc (u v w:Int):orV .u64 (orV .u64 u v) w=orV .u64 u (orV .u64 v w):=by
 simp only [or_nat,of_nat64,BitVec.or_assoc]
theorem and_assoc (u v w:Int):andV .u64 (andV .u64 u v) w=andV .u64 u (andV .u64 v w):=by
 simp only [and_nat,of_nat64,BitVec.and_assoc]
theorem and_or (u v w:Int):andV .u64 u (orV .u64 v w)=orV .u64 (andV .u64 u v) (andV .u64 u w):=by
 simp only [or_nat,and_nat,of_nat64]
 congr 2
 ext i
 simp [Bool.and_or_distrib_left]
theorem or_zero {u:Int}(h:u64r u):orV .u64 u 0=u:=by
 rw [or_nat]
 have h0:BitVec.ofInt 64 0=0#64:=rfl
 rw [h0,BitVec.or_zero,u_nat h]
theorem and_ones {u:Int}(h:u64r u):andV .u64 u 18446744073709551615=u:=by
 rw [and_nat]
 have h0:BitVec.ofInt 64 18446744073709551615=BitVec.allOnes 64:=by decide
 rw [h0,BitVec.and_allOnes,u_nat h]
section
theorem of1 {S M:Nat}{x:Sv}(h:x.of 1 S M):∃ q,x=.q q∧qz q≤S:=by
 cases x with
 | q x=>exact ⟨x,rfl,h.2⟩
 | c i n=>exact absurd h.1 (by decide)
 | s u=>exact absurd h.1 (by decide)
 | p a=>exact absurd h.1 (by decide)
theorem of2 {S M:Nat}{x:Sv}(h:x.of 2 S M):∃ i n,x=.c i n∧0≤n∧n≤1099511627776∧(i=true→n=0):=by
 cases x with
 | c i n=>exact ⟨i,n,rfl,h.2⟩
 | q x=>rcases h.1 with h | h; exact absurd h (by decide); exact absurd h.1 (by decide)
 | s u=>exact absurd h.1 (by decide)
 | p a=>exact absurd h.1 (by decide)
theorem of3 {S M:Nat}{x:Sv}(h:x.of 3 S M):∃ q,x=.q q∧0≤q∧q≤1∧qz q≤S:=by
 cases x with
 | q x =>
  rcases h.1 with h1 | h1
  ·exact absurd h1 (by decide)
  ·exact ⟨x,rfl,h1.2.1,h1.2.2,h.2⟩
 | c i n=>exact absurd h.1 (by decide)
 | s u=>exact absurd h.1 (by decide)
 | p a=>exact absurd h.1 (by decide)
theorem of4 {S M:Nat}{x:Sv}(h:x.of 4 S M):∃ u,x=.s u∧u64r u:=by
 cases x with
 | s u=>exact ⟨u,rfl,h.2⟩
 | q x=>rcases h.1 with h | h; exact absurd h (by decide); exact absurd h.1 (by decide)
 | c i n=>exact absurd h.1 (by decide)
 | p a=>exact absurd h.1 (by decide)
theorem of5 {S M:Nat}{x:Sv}(h:x.of 5 S M):∃ a,x=.p a∧PV S a∧a.length≤M:=by
 cases x with
 | p a=>exact ⟨a,rfl,h.2⟩
 | q x=>rcases h.1 with h | h; exact absurd h (by decide); exact absurd h.1 (by decide)
 | c i n=>exact absurd h.1 (by decide)
 | s u=>exact absurd h.1 (by decide)
def oneK (k:Int):Sv:=if k=2 then .c false 0 else if k=4 then .s 18446744073709551615 else if k=5 then .p (constP 1) else .q 1
theorem oneK_of {k:Int}(hk:single k=true)(S M:Nat)(hS:1≤S)(hM:1≤M):(oneK k).of k S M:=by
 rcases single_five hk with rfl | rfl | rfl | rfl | rfl
 ·exact ⟨.inl rfl,Nat.le_trans qz_one hS⟩
 ·exact ⟨rfl,by decide,by decide,fun _=>rfl⟩
 ·exact ⟨.inr ⟨rfl,by decide,by decide⟩,Nat.le_trans qz_one hS⟩
 ·exact ⟨rfl,by decide,by decide⟩
 ·exact ⟨rfl,constP_pv (Nat.le_trans qz_one hS),Nat.le_trans (const_len 1) hM⟩
theorem pl1 (x y:Rat):plusK 1 (.q x) (.q y)=.q (x+y):=rfl
theorem pl3 (x y:Rat):plusK 3 (.q x) (.q y)=.q (if x<y then y else x):=by
 show (if x<y then Sv.q y else .q x)=_
 split<;>rfl
theorem pl2 (i j:Bool)(n m:Int):plusK 2 (.c i n) (.c j m)=if lessC j m i n then .c j m else .c i n:=rfl
theorem pl4 (u v:Int):plusK 4 (.s u) (.s v)=.s (orV .u64 u v):=rfl
theorem pl5 (a b:List Ent):plusK 5 (.p a) (.p b)=.p (addP a b):=rfl
theorem ti1 (x y:Rat):timesK (.q x) (.q y)=.q (x*y):=rfl
theorem ti2 (i j:Bool)(n m:Int):timesK (.c i n) (.c j m)=if i||(j||decide (1099511627776<n+m)) then .c true 0 else .c false (n+m):=rfl
theorem ti4 (u v:Int):timesK (.s u) (.s v)=.s (andV .u64 u v):=rfl
theorem ti5 (a b:List Ent):timesK (.p a) (.p b)=.p (mulP a b):=rfl
section laws
variable {k:Int} {S M:Nat} {x y z:Sv}
theorem mul_01 {a b:Rat}(ha:0≤a∧a≤1)(hb:0≤b∧b≤1):0≤a*b∧a*b≤1:=by
 have h1:0≤a*b:=Rat.mul_nonneg ha.1 hb.1
 have h2:0≤a*(1-b):=Rat.mul_nonneg ha.1 (by grind)
 constructor
 ·exact h1
 ·grind
theorem times_of (hk:single k=true)(hS:1≤S)(hM:1≤M)(hx:x.of k S M)(hy:y.of k S M):(timesK x y).of k (M*(S+S+1)+1) (M*M):=by
 have hb:S+S≤M*(S+S+1)+1:=by
  have:=Nat.mul_le_mul_right (S+S+1) hM
  omega
 rcases single_five hk with rfl | rfl | rfl | rfl | rfl
 ·obtain ⟨a,rfl,ha⟩:=of1 hx
  obtain ⟨b,rfl,hb'⟩:=of1 hy
  have:=qz_mul a b
  exact ⟨.inl rfl,show qz (a*b)≤_ by omega⟩
 ·obtain ⟨i,n,rfl,h1,h2,h3⟩:=of2 hx
  obtain ⟨j,m,rfl,g1,g2,g3⟩:=of2 hy
  rw [ti2]
  split
  ·exact ⟨rfl,by decide,by decide,fun _=>rfl⟩
  ·rename_i h
   simp at h
   exact ⟨rfl,by omega,by omega,fun h=>by cases h⟩
 ·obtain ⟨a,rfl,a0,a1,ha⟩:=of3 hx
  obtain ⟨b,rfl,b0,b1,hb'⟩:=of3 hy
  have:=qz_mul a b
  exact ⟨.inr ⟨rfl,mul_01 ⟨a0,a1⟩ ⟨b0,b1⟩⟩,show qz (a*b)≤_ by omega⟩
 ·obtain ⟨u,rfl,hu⟩:=of4 hx
  obtain ⟨v,rfl,hv⟩:=of4 hy
  refine ⟨rfl, ?_⟩
  show u64r (andV .u64 u v)
  rw [and_nat]
  have:=(BitVec.ofInt 64 u &&& BitVec.ofInt 64 v).isLt
  unfold u64r
  omega
 ·obtain ⟨a,rfl,ha,la⟩:=of5 hx
  obtain ⟨b,rfl,hb',lb⟩:=of5 hy
  refine ⟨rfl,(mulP_pv hS ha hb').mono ?_,Nat.le_trans (mulP_length a b) (Nat.mul_le_mul la lb)⟩
  exact Nat.add_le_add_right (Nat.mul_le_mul_right _ la) 1
theorem plus_comm (hk:single k=true)(hS:1≤S)(hx:x.of k S M)(hy:y.of k S M):plusK k x y=plusK k y x:=by
 rcases single_five hk with rfl | rfl | rfl | rfl | rfl
 ·obtain ⟨a,rfl,_⟩:=of1 hx
  obtain ⟨b,rfl,_⟩:=of1 hy
  rw [pl1,pl1,Rat.add_comm]
 ·obtain ⟨i,n,rfl,h1,h2,h3⟩:=of2 hx
  obtain ⟨j,m,rfl,g1,g2,g3⟩:=of2 hy
  rw [pl2,pl2]
  unfold lessC
  cases i<;>cases j<;>simp at *<;>(repeat' split)<;>simp_all<;>omega
 ·obtain ⟨a,rfl,_⟩:=of3 hx
  obtain ⟨b,rfl,_⟩:=of3 hy
  rw [pl3,pl3]
  congr 1
  split<;>split<;>grind
 ·obtain ⟨u,rfl,_⟩:=of4 hx
  obtain ⟨v,rfl,_⟩:=of4 hy
  rw [pl4,pl4,or_comm]
 ·obtain ⟨a,rfl,ha,_⟩:=of5 hx
  obtain ⟨b,rfl,hb,_⟩:=of5 hy
  rw [pl5,pl5,addP_comm hS ha hb]
theorem times_comm (hk:single k=true)(hS:1≤S)(hx:x.of k S M)(hy:y.of k S M):timesK x y=timesK y x:=by
 rcases single_five hk with rfl | rfl | rfl | rfl | rfl
 ·obtain ⟨a,rfl,_⟩:=of1 hx
  obtain ⟨b,rfl,_⟩:=of1 hy
  rw [ti1,ti1,Rat.mul_comm]
 ·obtain ⟨i,n,rfl,h1,h2,h3⟩:=of2 hx
  obtain ⟨j,m,rfl,g1,g2,g3⟩:=of2 hy
  rw [ti2,ti2,Int.add_comm m n]
  cases i<;>cases j<;>rfl
 ·obtain ⟨a,rfl,_⟩:=of3 hx
  obtain ⟨b,rfl,_⟩:=of3 hy
  rw [ti1,ti1,Rat.mul_comm]
 ·obtain ⟨u,rfl,_⟩:=of4 hx
  obtain ⟨v,rfl,_⟩:=of4 hy
  rw [ti4,ti4,and_comm]
 ·obtain ⟨a,rfl,ha,_⟩:=of5 hx
  obtain ⟨b,rfl,hb,_⟩:=of5 hy
  rw [ti5,ti5,mulP_comm hS ha hb]
theorem plus_assoc (hk:single k=true)(hS:1≤S)(hx:x.of k S M)(hy:y.of k S M)(hz:z.of k S M):plusK k (plusK k x y) z=plusK k x (plusK k y z):=by
 rcases single_five hk with rfl | rfl | rfl | rfl | rfl
 ·obtain ⟨a,rfl,_⟩:=of1 hx
  obtain ⟨b,rfl,_⟩:=of1 hy
  obtain ⟨c,rfl,_⟩:=of1 hz
  simp only [pl1,Rat.add_assoc]
 ·obtain ⟨i,n,rfl,h1,h2,h3⟩:=of2 hx
  obtain ⟨j,m,rfl,g1,g2,g3⟩:=of2 hy
  obtain ⟨o,l,rfl,f1,f2,f3⟩:=of2 hz
  rw [pl2,pl2]
  by_cases a:lessC j m i n=true<;>by_cases b:lessC o l j m=true<;>simp only [a,b,if_true,if_false,Bool.false_eq_true,pl2]<;>unfold lessC at *<;>cases i<;>cases j<;>cases o<;>simp at *<;>(repeat' split)<;>simp_all<;>omega
 ·obtain ⟨a,rfl,_⟩:=of3 hx
  obtain ⟨b,rfl,_⟩:=of3 hy
  obtain ⟨c,rfl,_⟩:=of3 hz
  simp only [pl3]
  congr 1
  repeat' split
  all_goals grind
 ·obtain ⟨u,rfl,_⟩:=of4 hx
  obtain ⟨v,rfl,_⟩:=of4 hy
  obtain ⟨w,rfl,_⟩:=of4 hz
  simp only [pl4,or_assoc]
 ·obtain ⟨a,rfl,ha,_⟩:=of5 hx
  obtain ⟨b,rfl,hb,_⟩:=of5 hy
  obtain ⟨c,rfl,hc,_⟩:=of5 hz
  simp only [pl5,addP_assoc hS ha hb hc]
theorem times_assoc (hk:single k=true)(hS:1≤S)(hx:x.of k S M)(hy:y.of k S M)(hz:z.of k S M):timesK (timesK x y) z=timesK x (timesK y z):=by
 rcases single_five hk with rfl | rfl | rfl | rfl | rfl
 ·obtain ⟨a,rfl,_⟩:=of1 hx
  obtain ⟨b,rfl,_⟩:=of1 hy
  obtain ⟨c,rfl,_⟩:=of1 hz
  simp only [ti1,Rat.mul_assoc]
 ·obtain ⟨i,n,rfl,h1,h2,h3⟩:=of2 hx
  obtain ⟨j,m,rfl,g1,g2,g3⟩:=of2 hy
  obtain ⟨o,l,rfl,f1,f2,f3⟩:=of2 hz
  rw [ti2,ti2]
  by_cases a:1099511627776<n+m<;>by_cases b:1099511627776<m+l<;>cases i<;>cases j<;>cases o<;>(try simp [a,b,ti2])<;>(try (repeat' split))<;>first | done | rfl | omega | (congr 1; omega) | (simp_all; omega)
 ·obtain ⟨a,rfl,_⟩:=of3 hx
  obtain ⟨b,rfl,_⟩:=of3 hy
  obtain ⟨c,rfl,_⟩:=of3 hz
  simp only [ti1,Rat.mul_assoc]
 ·obtain ⟨u,rfl,_⟩:=of4 hx
  obtain ⟨v,rfl,_⟩:=of4 hy
  obtain ⟨w,rfl,_⟩:=of4 hz
  simp only [ti4,and_assoc]
 ·obtain ⟨a,rfl,ha,_⟩:=of5 hx
  obtain ⟨b,rfl,hb,_⟩:=of5 hy
  obtain ⟨c,rfl,hc,_⟩:=of5 hz
  simp only [ti5,mulP_assoc hS ha hb hc]
theorem times_plus (hk:single k=true)(hS:1≤S)(hx:x.of k S M)(hy:y.of k S M)(hz:z.of k S M):timesK x (plusK k y z)=plusK k (timesK x y) (timesK x z):=by
 rcases single_five hk with rfl | rfl | rfl | rfl | rfl
 ·obtain ⟨a,rfl,_⟩:=of1 hx
  obtain ⟨b,rfl,_⟩:=of1 hy
  obtain ⟨c,rfl,_⟩:=of1 hz
  simp only [ti1,pl1,Rat.mul_add]
 ·obtain ⟨i,n,rfl,h1,h2,h3⟩:=of2 hx
  obtain ⟨j,m,rfl,g1,g2,g3⟩:=of2 hy
  obtain ⟨o,l,rfl,f1,f2,f3⟩:=of2 hz
  rw [ti2,ti2,pl2]
  by_cases a:1099511627776<n+m<;>by_cases b:1099511627776<n+l<;>by_cases c:l<m<;>cases i<;>cases j<;>cases o<;>(try simp [a,b,c,ti2,pl2,lessC])<;>(try (repeat' split))<;>first | done | rfl | omega | (congr 1; omega) | (simp_all; omega)
 ·obtain ⟨a,rfl,a0,a1,_⟩:=of3 hx
  obtain ⟨b,rfl,_⟩:=of3 hy
  obtain ⟨c,rfl,_⟩:=of3 hz
  simp only [ti1,pl3]
  congr 1
  split
  ·rename_i h
   have h1:0≤a*(c-b):=Rat.mul_nonneg a0 (by grind)
   split
   ·rfl
   ·grind
  ·rename_i h
   have h1:0≤a*(b-c):=Rat.mul_nonneg a0 (by grind)
   split
   ·grind
   ·rfl
 ·obtain ⟨u,rfl,_⟩:=of4 hx
  obtain ⟨v,rfl,_⟩:=of4 hy
  obtain ⟨w,rfl,_⟩:=of4 hz
  simp only [ti4,pl4,and_or]
 ·obtain ⟨a,rfl,ha,_⟩:=of5 hx
  obtain ⟨b,rfl,hb,_⟩:=of5 hy
  obtain ⟨c,rfl,hc,_⟩:=of5 hz
  simp only [ti5,pl5,mulP_add hS ha hb hc]
theorem plus_zero (hk:single k=true)(hS:1≤S)(hx:x.of k S M):plusK k x (zeroK k)=x:=by
 rcases single_five hk with rfl | rfl | rfl | rfl | rfl
 ·obtain ⟨a,rfl,_⟩:=of1 hx
  show Sv.q (a+0)=_
  rw [Rat.add_zero]
 ·obtain ⟨i,n,rfl,h1,h2,h3⟩:=of2 hx
  show (if lessC true 0 i n then Sv.c true 0 else .c i n)=_
  rfl
 ·obtain ⟨a,rfl,a0,_⟩:=of3 hx
  show plusK 3 (.q a) (.q 0)=_
  rw [pl3,if_neg (by grind)]
 ·obtain ⟨u,rfl,hu⟩:=of4 hx
  show Sv.s (orV .u64 u 0)=_
  rw [or_zero hu]
 ·obtain ⟨a,rfl,ha,_⟩:=of5 hx
  show Sv.p (addP a [])=_
  rw [addP_nil hS ha]
theorem times_one (hk:single k=true)(hS:1≤S)(hx:x.of k S M):timesK x (oneK k)=x:=by
 rcases single_five hk with rfl | rfl | rfl | rfl | rfl
 ·obtain ⟨a,rfl,_⟩:=of1 hx
  show Sv.q (a*1)=_
  rw [Rat.mul_one]
 ·obtain ⟨i,n,rfl,h1,h2,h3⟩:=of2 hx
  show (if i||(false||decide (1099511627776<n+0)) then Sv.c true 0 else .c false (n+0))=_
  cases i
  ·have:¬ 1099511627776<n+0:=by omega
   simp [this]
   omega
  ·rw [h3 rfl]; rfl
 ·obtain ⟨a,rfl,_⟩:=of3 hx
  show Sv.q (a*1)=_
  rw [Rat.mul_one]
 ·obtain ⟨u,rfl,hu⟩:=of4 hx
  show Sv.s (andV .u64 u 18446744073709551615)=_
  rw [and_ones hu]
 ·obtain ⟨a,rfl,ha,_⟩:=of5 hx
  show Sv.p (mulP a (constP 1))=_
  rw [mulP_one hS ha (constP_pv (Nat.le_trans qz_one hS))]
end laws
end
set_option maxHeartbeats 8000000
section
def ksO (kk:Int)(ps:List Int):List Int:=if kk=6 then ps else [kk]
def mkW (kk:Int)(xs:List Sv):W:=if kk=6 then wProd (xs.map Sv.w) else (xs.headD (.q 0)).w
noncomputable def timesL (xs ys:List Sv):List Sv:=(xs.zip ys).map fun p=>timesK p.1 p.2
theorem ks_single {kk:Int}{ps:List Int}(h:validRg kk ps=true):∀ k ∈ ksO kk ps,single k=true:=by
 unfold ksO
 split
 ·rename_i h6
  subst h6
  exact (rg6 h).2.2
 ·rename_i h6
  unfold validRg at h
  rw [if_pos h6] at h
  simp only [Bool.and_eq_true] at h
  intro k hk
  rw [List.mem_singleton] at hk
  subst hk
  exact h.1
theorem timesL_at {xs ys:List Sv}{i:Nat}{z:Sv}(h:(timesL xs ys)[i]?=some z):∃ x y,xs[i]?=some x∧ys[i]?=some y∧z=timesK x y:=by
 unfold timesL at h
 rw [List.getElem?_map,Option.map_eq_some_iff] at h
 obtain ⟨⟨x,y⟩,h1,rfl⟩:=h
 rw [List.getElem?_zip_eq_some] at h1
 exact ⟨x,y,h1.1,h1.2,rfl⟩
theorem timesL_ofs {S M:Nat}(hS:1≤S)(hM:1≤M){ks:List Int}(hs:∀ k ∈ ks,single k=true){xs ys:List Sv}(hx:Ofs S M ks xs)(hy:Ofs S M ks ys):Ofs (M*(S+S+1)+1) (M*M) ks (timesL xs ys):=by
 refine ⟨by simp [timesL,hx.1,hy.1],fun i k z hk hz => ?_⟩
 obtain ⟨x,y,h2,h3,rfl⟩:=timesL_at hz
 exact times_of (hs k (List.mem_of_getElem? hk)) hS hM (hx.2 i k x hk h2) (hy.2 i k y hk h3)
theorem Ofs.mono {S T M M':Nat}{ks:List Int}{xs:List Sv}(h:Ofs S M ks xs)(hST:S≤T)(hM:M≤M'):Ofs T M' ks xs:=⟨h.1,fun i k x hk hx=>(h.2 i k x hk hx).mono hST hM⟩
theorem ext_ofs {ks:List Int}{l m:List Sv}(hl:l.length=ks.length)(hm:m.length=ks.length)(h:∀ (i:Nat) (k:Int) (x y:Sv),ks[i]?=some k→l[i]?=some x→m[i]?=some y→x=y):l=m:=by
 refine List.ext_getElem (by omega) (fun i h1 h2 => ?_)
 exact h i (ks[i]'(by omega)) _ _ (List.getElem?_eq_getElem (by omega)) (List.getElem?_eq_getElem h1) (List.getElem?_eq_getElem h2)
theorem same_at {α:Type}{l:List α}{i:Nat}{x y:α}(h1:l[i]?=some x)(h2:l[i]?=some y):x=y:=by
 rw [h1] at h2; exact Option.some.inj h2
section laws
variable {S M:Nat} {ks:List Int} {xs ys zs:List Sv}
theorem plusL_len (hx:xs.length=ks.length)(hy:ys.length=ks.length):(plusL ks xs ys).length=ks.length:=by simp [plusL,hx,hy]
theorem timesL_len (hx:xs.length=ks.length)(hy:ys.length=ks.length):(timesL xs ys).length=ks.length:=by simp [timesL,hx,hy]
theorem plusL_comm (hS:1≤S)(hs:∀ k ∈ ks,single k=true)(hx:Ofs S M ks xs)(hy:Ofs S M ks ys):plusL ks xs ys=plusL ks ys xs:=by
 refine ext_ofs (plusL_len hx.1 hy.1) (plusL_len hy.1 hx.1) (fun i k u v hk hu hv => ?_)
 obtain ⟨k1,x,y,a1,a2,a3,rfl⟩:=plusL_at hu
 obtain ⟨k2,y',x',b1,b2,b3,rfl⟩:=plusL_at hv
 obtain rfl:=same_at hk a1
 obtain rfl:=same_at hk b1
 obtain rfl:=same_at a2 b3
 obtain rfl:=same_at a3 b2
 exact plus_comm (hs k (List.mem_of_getElem? hk)) hS (hx.2 i k _ hk a2) (hy.2 i k _ hk a3)
theorem timesL_comm (hS:1≤S)(hs:∀ k ∈ ks,single k=true)(hx:Ofs S M ks xs)(hy:Ofs S M ks ys):timesL xs ys=timesL ys xs:=by
 refine ext_ofs (timesL_len hx.1 hy.1) (timesL_len hy.1 hx.1) (fun i k u v hk hu hv => ?_)
 obtain ⟨x,y,a2,a3,rfl⟩:=timesL_at hu
 obtain ⟨y',x',b2,b3,rfl⟩:=timesL_at hv
 obtain rfl:=same_at a2 b3
 obtain rfl:=same_at a3 b2
 exact times_comm (hs k (List.mem_of_getElem? hk)) hS (hx.2 i k _ hk a2) (hy.2 i k _ hk a3)
theorem plusL_assoc (hS:1≤S)(hs:∀ k ∈ ks,single k=true)(hx:Ofs S M ks xs)(hy:Ofs S M ks ys)(hz:Ofs S M ks zs):plusL ks (plusL ks xs ys) zs=plusL ks xs (plusL ks ys zs):=by
 refine ext_ofs (plusL_len (plusL_len hx.1 hy.1) hz.1) (plusL_len hx.1 (plusL_len hy.1 hz.1)) (fun i k u v hk hu hv => ?_)
 obtain ⟨k1,t,z,a1,a2,a3,rfl⟩:=plusL_at hu
 obtain ⟨k2,x,y,c1,c2,c3,rfl⟩:=plusL_at a2
 obtain ⟨k3,x',t',b1,b2,b3,rfl⟩:=plusL_at hv
 obtain ⟨k4,y',z',d1,d2,d3,rfl⟩:=plusL_at b3
 obtain rfl:=same_at hk a1
 obtain rfl:=same_at hk b1
 obtain rfl:=same_at hk c1
 obtain rfl:=same_at hk d1
 obtain rfl:=same_at c2 b2
 obtain rfl:=same_at c3 d2
 obtain rfl:=same_at a3 d3
 exact plus_assoc (hs k (List.mem_of_getElem? hk)) hS (hx.2 i k _ hk c2) (hy.2 i k _ hk c3) (hz.2 i k _ hk a3)
theorem timesL_assoc (hS:1≤S)(hs:∀ k ∈ ks,single k=true)(hx:Ofs S M ks xs)(hy:Ofs S M ks ys)(hz:Ofs S M ks zs):timesL (timesL xs ys) zs=timesL xs (timesL ys zs):=by
 refine ext_ofs (timesL_len (timesL_len hx.1 hy.1) hz.1) (timesL_len hx.1 (timesL_len hy.1 hz.1)) (fun i k u v hk hu hv => ?_)
 obtain ⟨t,z,a2,a3,rfl⟩:=timesL_at hu
 obtain ⟨x,y,c2,c3,rfl⟩:=timesL_at a2
 obtain ⟨x',t',b2,b3,rfl⟩:=timesL_at hv
 obtain ⟨y',z',d2,d3,rfl⟩:=timesL_at b3
 obtain rfl:=same_at c2 b2
 obtain rfl:=same_at c3 d2
 obtain rfl:=same_at a3 d3
 exact times_assoc (hs k (List.mem_of_getElem? hk)) hS (hx.2 i k _ hk c2) (hy.2 i k _ hk c3) (hz.2 i k _ hk a3)
theorem timesL_plus (hS:1≤S)(hs:∀ k ∈ ks,single k=true)(hx:Ofs S M ks xs)(hy:Ofs S M ks ys)(hz:Ofs S M ks zs):timesL xs (plusL ks ys zs)=plusL ks (timesL xs ys) (timesL xs zs):=by
 refine ext_ofs (timesL_len hx.1 (plusL_len hy.1 hz.1)) (plusL_len (timesL_len hx.1 hy.1) (timesL_len hx.1 hz.1)) (fun i k u v hk hu hv => ?_)
 obtain ⟨x,t,a2,a3,rfl⟩:=timesL_at hu
 obtain ⟨k2,y,z,c1,c2,c3,rfl⟩:=plusL_at a3
 obtain ⟨k3,s,t',b1,b2,b3,rfl⟩:=plusL_at hv
 obtain ⟨x',y',d2,d3,rfl⟩:=timesL_at b2
 obtain ⟨x'',z',e2,e3,rfl⟩:=timesL_at b3
 obtain rfl:=same_at hk b1
 obtain rfl:=same_at hk c1
 obtain rfl:=same_at a2 d2
 obtain rfl:=same_at a2 e2
 obtain rfl:=same_at c2 d3
 obtain rfl:=same_at c3 e3
 exact times_plus (hs k (List.mem_of_getElem? hk)) hS (hx.2 i k _ hk a2) (hy.2 i k _ hk c2) (hz.2 i k _ hk c3)
theorem map_at {f:Int→Sv}{i:Nat}{k:Int}{z:Sv}(hk:ks[i]?=some k)(h:(ks.map f)[i]?=some z):z=f k:=by
 rw [List.getElem?_map,hk] at h
 exact (Option.some.inj h).symm
theorem plusL_zero (hS:1≤S)(hs:∀ k ∈ ks,single k=true)(hx:Ofs S M ks xs):plusL ks xs (ks.map zeroK)=xs:=by
 refine ext_ofs (plusL_len hx.1 (by simp)) hx.1 (fun i k u v hk hu hv => ?_)
 obtain ⟨k1,x,y,a1,a2,a3,rfl⟩:=plusL_at hu
 obtain rfl:=same_at hk a1
 obtain rfl:=same_at a2 hv
 rw [map_at hk a3]
 exact plus_zero (hs k (List.mem_of_getElem? hk)) hS (hx.2 i k _ hk a2)
theorem timesL_one (hS:1≤S)(hs:∀ k ∈ ks,single k=true)(hx:Ofs S M ks xs):timesL xs (ks.map oneK)=xs:=by
 refine ext_ofs (timesL_len hx.1 (by simp)) hx.1 (fun i k u v hk hu hv => ?_)
 obtain ⟨x,y,a2,a3,rfl⟩:=timesL_at hu
 obtain rfl:=same_at a2 hv
 rw [map_at hk a3]
 exact times_one (hs k (List.mem_of_getElem? hk)) hS (hx.2 i k _ hk a2)
theorem timesL_zero (hs:∀ k ∈ ks,single k=true)(hx:Ofs S M ks xs):timesL xs (ks.map zeroK)=ks.map zeroK:=by
 refine ext_ofs (timesL_len hx.1 (by simp)) (by simp) (fun i k u v hk hu hv => ?_)
 obtain ⟨x,y,a2,a3,rfl⟩:=timesL_at hu
 rw [map_at hk a3,map_at hk hv]
 exact times_zero (hs k (List.mem_of_getElem? hk)) (hx.2 i k _ hk a2)
theorem zeros_ofs (hS:1≤S)(hs:∀ k ∈ ks,single k=true):Ofs S M ks (ks.map zeroK):=⟨by simp,fun i k x hk hx=>by rw [map_at hk hx]; exact zeroK_of (hs k (List.mem_of_getElem? hk)) S M hS⟩
theorem ones_ofs (hS:1≤S)(hM:1≤M)(hs:∀ k ∈ ks,single k=true):Ofs S M ks (ks.map oneK):=⟨by simp,fun i k x hk hx=>by rw [map_at hk hx]; exact oneK_of (hs k (List.mem_of_getElem? hk)) S M hS hM⟩
end laws
section ring
variable {kk:Int} {ps:List Int} {S M:Nat} {xs ys:List Sv}
theorem one_list {k:Int}(h:Ofs S M [k] xs):∃ x,xs=[x]∧x.of k S M:=by
 match xs,h with
 | [x],h=>exact ⟨x,rfl,h.2 0 k x rfl rfl⟩
 | [],h=>simp [Ofs] at h
 | _::_::_,h=>simp [Ofs] at h
theorem simple_ps (h:validRg kk ps=true)(h6:kk≠6):ps=[]∧single kk=true:=by
 unfold validRg at h
 rw [if_pos h6] at h
 simp only [Bool.and_eq_true,decide_eq_true_eq] at h
 exact ⟨h.2,h.1⟩
theorem mk_ok (hv:validRg kk ps=true)(hS:S≤1000)(h:Ofs S M (ksO kk ps) xs):(mkW kk xs).OK:=by
 unfold mkW
 by_cases h6:kk=6
 ·subst h6
  rw [if_pos rfl]
  unfold ksO at h
  rw [if_pos rfl] at h
  exact ok_prod hS (rg6 hv).1 h
 ·rw [if_neg h6]
  unfold ksO at h
  rw [if_neg h6] at h
  obtain ⟨x,rfl,hx⟩:=one_list h
  exact ok_of hx hS
theorem mk_check (hv:validRg kk ps=true)(h:Ofs S M (ksO kk ps) xs):checkB kk ps (mkW kk xs)=true:=by
 unfold mkW
 by_cases h6:kk=6
 ·subst h6
  rw [if_pos rfl]
  unfold ksO at h
  rw [if_pos rfl] at h
  exact check_prod hv h
 ·rw [if_neg h6]
  unfold ksO at h
  rw [if_neg h6] at h
  obtain ⟨x,rfl,hx⟩:=one_list h
  unfold checkB
  rw [hv,if_pos h6]
  exact chk_of hx
theorem len_ps (hv:validRg kk ps=true):ps.length≤1000000:=by
 by_cases h6:kk=6
 ·subst h6
  have:=(rg6 hv).1
  omega
 ·rw [(simple_ps hv h6).1]; simp
theorem mk_value (hv:validRg kk ps=true)(hS:S≤1000)(h:Ofs S M (ksO kk ps) xs):Ca E1 41 [.d (rgD kk ps),.d (mkW kk xs).d] (.d (mkW kk xs).d,none) :=
 ca_value_yes (len_ps hv) (mk_ok hv hS h) (mk_check hv h)
theorem mk_plus (hv:validRg kk ps=true)(hS:S≤1000)(hM:(M+M)*(S+1)≤50000)(hx:Ofs S M (ksO kk ps) xs)(hy:Ofs S M (ksO kk ps) ys) :
  Ca E1 14 [.d (rgD kk ps),.d (mkW kk xs).d,.d (mkW kk ys).d] (.d (mkW kk (plusL (ksO kk ps) xs ys)).d,none):=by
 have vx:=mk_value hv hS hx
 have vy:=mk_value hv hS hy
 unfold mkW ksO at *
 by_cases h6:kk=6
 ·subst h6
  simp only [if_true] at *
  exact ca_plusOfs hS hM hv _ _ hx hy vx vy
 ·simp only [if_neg h6] at *
  obtain ⟨rfl,hs⟩:=simple_ps hv h6
  obtain ⟨x,rfl,hx'⟩:=one_list hx
  obtain ⟨y,rfl,hy'⟩:=one_list hy
  exact ca_PlusS hs _ _ _ _ _ vx vy (plusC_of hs hS hM hx' hy')
theorem mk_times (hv:validRg kk ps=true)(hS:S≤1000)(hM:M*(M*(2*S+1))≤50000)(hx:Ofs S M (ksO kk ps) xs)(hy:Ofs S M (ksO kk ps) ys) :
  Ca E1 13 [.d (rgD kk ps),.d (mkW kk xs).d,.d (mkW kk ys).d] (.d (mkW kk (timesL xs ys)).d,none):=by
 have vx:=mk_value hv hS hx
 have vy:=mk_value hv hS hy
 unfold mkW ksO at *
 by_cases h6:kk=6
 ·subst h6
  simp only [if_true] at *
  refine ca_TimesP hv _ _ _ _ _ (by simp [hx.1]) (by simp [hy.1]) (by simp [timesL,hx.1,hy.1]) vx vy (fun i k x y z hk hxi hyi hzi => ?_)
  obtain ⟨x',g1,rfl⟩:=getMap hxi
  obtain ⟨y',g2,rfl⟩:=getMap hyi
  obtain ⟨z',g3,rfl⟩:=getMap hzi
  obtain ⟨x'',y'',f2,f3,rfl⟩:=timesL_at g3
  obtain rfl:=same_at g1 f2
  obtain rfl:=same_at g2 f3
  exact timesC_of ((rg6 hv).2.2 k (List.mem_of_getElem? hk)) hS hM (hx.2 i k _ hk g1) (hy.2 i k _ hk g2)
 ·simp only [if_neg h6] at *
  obtain ⟨rfl,hs⟩:=simple_ps hv h6
  obtain ⟨x,rfl,hx'⟩:=one_list hx
  obtain ⟨y,rfl,hy'⟩:=one_list hy
  exact ca_TimesS hs _ _ _ _ _ vx vy (timesC_of hs hS hM hx' hy')
theorem mk_same (hv:validRg kk ps=true)(hS:S≤1000)(h:Ofs S M (ksO kk ps) xs):Ca E1 12 [.d (mkW kk xs).d,.d (mkW kk xs).d] (.d (.v (.bool true)),none):=by
 have hok:=mk_ok hv hS h
 have:=ca_wEqual _ hok _ hok
 rw [W.eq_refl] at this
 exact Ca.up1 this
end ring
end
set_option maxRecDepth 10000
def olit (k:Int):D :=
 if k=4 then .a [.v (.bool false),.s 1 [],.s 1 [],.v (.int .i64 0),.v (.bool false),.v (.int .u64 18446744073709551615),.s 6 [],.s 8 []]
 else if k=2 then .a [.v (.bool false),.s 1 [],.s 1 [],.v (.int .i64 0),.v (.bool false),.v (.int .u64 0),.s 6 [],.s 8 []]
 else if k=5 then .a [.v (.bool false),.s 1 [],.s 1 [],.v (.int .i64 0),.v (.bool false),.v (.int .u64 0),poly1,.s 8 []]
 else .a [.v (.bool false),.s 1 [.v (.int .u32 1)],.s 1 [],.v (.int .i64 0),.v (.bool false),.v (.int .u64 0),.s 6 [],.s 8 []]
def olitD (k:Int)(ps:List Int):D:=if k=6 then .a [.v (.bool false),.s 1 [],.s 1 [],.v (.int .i64 0),.v (.bool false),.v (.int .u64 0),.s 6 [],.s 8 (ps.map olit)] else olit k
def ocB (k:Int)(ps:List Int):Bool :=
 match callN E6 3000 27 [.d (rgD k ps)] [] with
 | some (.d z,none)=>sameD z (olitD k ps)
 | _=>false
theorem oc_1:ocB 1 []=true:=by kernel_rfl
theorem oc_2:ocB 2 []=true:=by kernel_rfl
theorem oc_3:ocB 3 []=true:=by kernel_rfl
theorem oc_4:ocB 4 []=true:=by kernel_rfl
theorem oc_5:ocB 5 []=true:=by kernel_rfl
theorem oc_6:ocB 6 [1,2]=true:=by kernel_rfl
theorem oc_7:ocB 6 [3,4,5]=true:=by kernel_rfl
theorem oneK_d {k:Int}(hk:single k=true):(oneK k).w.d=olit k:=by
 have h1:qs 1=false:=by decide
 have h2:qn 1=[1]:=by
  show enc 1=[1]
  exact enc_small (by omega) (by omega)
 have h3:qd 1=[]:=if_pos rfl
 have hc:constP 1=[((0,0,0),1)]:=if_neg (by decide)
 rcases single_five hk with rfl | rfl | rfl | rfl | rfl
 ·simp [oneK,olit,Sv.w,W.d,W.ds,PD,LD,LL,h1,h2,h3]
 ·simp [oneK,olit,Sv.w,W.d,W.ds,PD,LD,LL]
 ·simp [oneK,olit,Sv.w,W.d,W.ds,PD,LD,LL,h1,h2,h3]
 ·simp [oneK,olit,Sv.w,W.d,W.ds,PD,LD,LL]
 ·simp [oneK,olit,Sv.w,W.d,W.ds,PD,LD,LL,hc,entMo,Mo.d,h1,h2,h3,poly1]
theorem ones_d {kk:Int}{ps:List Int}(h:validRg kk ps=true):(mkW kk ((ksO kk ps).map oneK)).d=olitD kk ps:=by
 have hs:=ks_single h
 unfold mkW ksO olitD at *
 by_cases h6:kk=6
 ·subst h6
  simp only [if_true] at *
  have:W.ds ((ps.map oneK).map Sv.w)=ps.map olit:=by
   rw [W.ds_map,List.map_map,List.map_map]
   exact List.map_congr_left fun x hx=>oneK_d (hs x hx)
  show D.a [.v (.bool false),.s 1 [],.s 1 [],.v (.int .i64 0),.v (.bool false),.v (.int .u64 0),.s 6 [],.s 8 (W.ds ((ps.map oneK).map Sv.w))]=_
  rw [this]
 ·simp only [if_neg h6] at *
  exact oneK_d (hs kk (by simp))
theorem ring_cases (k:Int):(ringK k=6∧(ringP k=[1,2]∨ringP k=[3,4,5]))∨((ringK k=1∨ringK k=2∨ringK k=3∨ringK k=4∨ringK k=5)∧ringP k=[]):=by
 have h1:=Int.emod_nonneg k (show (7:Int)≠0 by omega)
 have h2:=Int.emod_lt_of_pos k (show (0:Int)<7 by omega)
 unfold ringK ringP
 by_cases h5:k % 7=5
 ·left; rw [if_pos (.inl h5),if_pos h5]; exact ⟨rfl,.inl rfl⟩
 ·by_cases h6:k % 7=6
  ·left; rw [if_pos (.inr h6),if_neg h5,if_pos h6]; exact ⟨rfl,.inr rfl⟩
  ·right
   rw [if_neg (by rintro (h | h)<;>contradiction),if_neg h5,if_neg h6]
   exact ⟨by omega,rfl⟩
theorem ring_valid (k:Int):validRg (ringK k) (ringP k)=true:=by
 rcases ring_cases k with ⟨h1,h2 | h2⟩ | ⟨h1 | h1 | h1 | h1 | h1,h2⟩<;>rw [h1,h2]<;>decide
theorem ca_onesM (k:Int):Ca E1 27 [.d (rgD (ringK k) (ringP k))] (.d (mkW (ringK k) ((ksO (ringK k) (ringP k)).map oneK)).d,none):=by
 obtain ⟨K,hK⟩:=has_const
 rw [ones_d (ring_valid k)]
 have main:∀ {a:Int} {b:List Int},ocB a b=true→Ca E1 27 [.d (rgD a b)] (.d (olitD a b),none):=by
  intro a b h
  unfold ocB at h
  split at h
  ·rename_i z hz
   rw [← sameD_eq h]
   exact Ca.of (callN_has hK hz)
  ·cases h
 rcases ring_cases k with ⟨h1,h2 | h2⟩ | ⟨h1 | h1 | h1 | h1 | h1,h2⟩<;>rw [h1,h2]
 ·exact main oc_6
 ·exact main oc_7
 ·exact main oc_1
 ·exact main oc_2
 ·exact main oc_3
 ·exact main oc_4
 ·exact main oc_5
theorem ca_zerosM {kk:Int}{ps:List Int}(h:validRg kk ps=true):Ca E1 26 [.d (rgD kk ps)] (.d (mkW kk ((ksO kk ps).map zeroK)).d,none):=by
 have h1:=ca_zeroW h
 have e:zeroW kk ps=mkW kk ((ksO kk ps).map zeroK):=by
  unfold zeroW mkW ksO
  by_cases h6:kk=6
  ·simp only [if_pos h6,List.map_map]; rfl
  ·simp only [if_neg h6]; rfl
 rw [e] at h1
 exact h1
noncomputable def madeL (kk:Int) (ps:List Int) (v:Int):List Sv:=if kk=6 then (List.range ps.length).map fun i=>madeS (ps.getD i 0) (wrapS .i64 (v+i)) else [madeS kk v]
theorem made_simple {k:Int}(hk:single k=true)(v:Int)(hv:i64r v):Ca E1 16 [.d (rgD k []),.d (.v (.int .i64 v))] (.d (madeS k v).w.d,none):=by
 unfold madeS
 rcases single_five hk with rfl | rfl | rfl | rfl | rfl
 ·exact made1 v hv
 ·exact made2 v hv
 ·exact made3' v hv
 ·exact made4 v hv
 ·exact made5 v hv
theorem wrap_r (z:Int):i64r (wrapS .i64 z):=by
 have h:=Go.wf_wrap .i64 z
 rw [wrapS_eq]
 exact wf_i64 h
theorem madeL_ofs {kk:Int}{ps:List Int}(h:validRg kk ps=true)(v:Int):Ofs 9 2 (ksO kk ps) (madeL kk ps v):=by
 have hs:=ks_single h
 unfold madeL ksO at *
 by_cases h6:kk=6
 ·simp only [if_pos h6] at *
  refine ⟨by simp,fun i k x hk hx => ?_⟩
  have hi:i<ps.length:=(List.getElem?_eq_some_iff.1 hk).1
  rw [List.getElem?_map,List.getElem?_range hi] at hx
  simp only [Option.map_some,Option.some.injEq] at hx
  subst hx
  have hg:ps.getD i 0=k:=by rw [List.getD_eq_getElem?_getD,hk]; rfl
  rw [hg]
  exact made_of (hs k (List.mem_of_getElem? hk)) _
 ·simp only [if_neg h6] at *
  refine ⟨rfl,fun i k x hk hx => ?_⟩
  match i with
  | 0 =>
   cases hk; cases hx
   exact made_of (hs kk (by simp)) v
  | i+1=>cases hk
theorem ca_madeM {kk:Int}{ps:List Int}(h:validRg kk ps=true)(v:Int)(hv:i64r v):Ca E1 16 [.d (rgD kk ps),.d (.v (.int .i64 v))] (.d (mkW kk (madeL kk ps v)).d,none):=by
 have hs:=ks_single h
 unfold madeL mkW ksO at *
 by_cases h6:kk=6
 ·subst h6
  simp only [if_true] at *
  refine ca_madeP v ps _ (rg6 h).1 (by simp) (fun i k z hk hz => ?_)
  have hi:i<ps.length:=(List.getElem?_eq_some_iff.1 hk).1
  rw [List.getElem?_map,List.getElem?_map,List.getElem?_range hi] at hz
  simp only [Option.map_some,Option.some.injEq] at hz
  subst hz
  have hg:ps.getD i 0=k:=by rw [List.getD_eq_getElem?_getD,hk]; rfl
  rw [hg]
  exact made_simple (hs k (List.mem_of_getElem? hk)) _ (wrap_r _)
 ·simp only [if_neg h6] at *
  obtain ⟨rfl,hk⟩:=simple_ps h h6
  exact made_simple hk v hv
end Fi.S
namespace Fi.S
open Go Fi
set_option maxHeartbeats 8000000
attribute [local simp] oo og ci ml mv ld lf fa lo st0 cl ia lr fl ln sv fb mF mi mn bx bc bl pF pT sl EX_skip EX_ret EX_exit EX_kill EX_seq EX_cond EX_block EX_region ROps_nil ROps_cons RK_mov RK_pick RK_bin RK_conv RK_beq RK_aeq RK_nileq RK_un RK_box RK_new RK_load RK_store RK_faddr RK_field RK_iaddr RK_aaddr RK_index RK_build RK_lit RK_len RK_maxi RK_mini RK_app RK_slice RK_mk RK_ext RK_clo RK_call RK_callv RK_callr RK_mkmap RK_mget RK_mput RK_cap RK_appz callFull RK_slen RK_sindex RK_sslice guardV runK argV argsV doCall callPure D.cells FV.cells FV.one D.one oneV St.push St.heap St.setHeap splice partF partD s_add s_sub s_mul s_quo s_rem s_or s_and s_xor s_shl s_shr s_eql s_neq s_lss s_leq s_gtr s_geq unV setVars killVars apartOk finish ressV resV leavesL leaves leaveL leave1 allD mkA fillF finish2 isPure oneOf freezeAll FV.rows FV.rows1 D.norm D.norm1 scalar D.isV FV.shift FV.shiftL AObj.shift pureElem fillE elems FStmt.l FStmt.r FStmt.bl FStmt.lp
set_option maxRecDepth 10000
theorem law7_body (hA:Ca E1 11 [] (.d (.v (.bool true)),none))(k u v w kk:Int)(ps:List Int)(A B C Z O AB tAB BC S3 tBC T3 D tAC:W)
  (r1:Ca E1 15 [.d (.v (.int .i64 k))] (.d (rgD kk ps),none)) (r2:Ca E1 16 [.d (rgD kk ps),.d (.v (.int .i64 u))] (.d A.d,none)) (r3:Ca E1 16 [.d (rgD kk ps),.d (.v (.int .i64 v))] (.d B.d,none)) (r4:Ca E1 16 [.d (rgD kk ps),.d (.v (.int .i64 w))] (.d C.d,none))
  (r5:Ca E1 26 [.d (rgD kk ps)] (.d Z.d,none)) (r6:Ca E1 27 [.d (rgD kk ps)] (.d O.d,none))
  (q1:Ca E1 14 [.d (rgD kk ps),.d A.d,.d B.d] (.d AB.d,none))
  (q2:Ca E1 14 [.d (rgD kk ps),.d B.d,.d A.d] (.d AB.d,none))
  (q3:Ca E1 13 [.d (rgD kk ps),.d A.d,.d B.d] (.d tAB.d,none))
  (q4:Ca E1 13 [.d (rgD kk ps),.d B.d,.d A.d] (.d tAB.d,none))
  (q5:Ca E1 14 [.d (rgD kk ps),.d AB.d,.d C.d] (.d S3.d,none))
  (q6:Ca E1 14 [.d (rgD kk ps),.d B.d,.d C.d] (.d BC.d,none))
  (q7:Ca E1 14 [.d (rgD kk ps),.d A.d,.d BC.d] (.d S3.d,none))
  (q8:Ca E1 13 [.d (rgD kk ps),.d tAB.d,.d C.d] (.d T3.d,none))
  (q9:Ca E1 13 [.d (rgD kk ps),.d B.d,.d C.d] (.d tBC.d,none))
  (q10:Ca E1 13 [.d (rgD kk ps),.d A.d,.d tBC.d] (.d T3.d,none))
  (q11:Ca E1 13 [.d (rgD kk ps),.d A.d,.d BC.d] (.d D.d,none))
  (q12:Ca E1 13 [.d (rgD kk ps),.d A.d,.d C.d] (.d tAC.d,none))
  (q13:Ca E1 14 [.d (rgD kk ps),.d tAB.d,.d tAC.d] (.d D.d,none))
  (q14:Ca E1 14 [.d (rgD kk ps),.d A.d,.d Z.d] (.d A.d,none))
  (q15:Ca E1 13 [.d (rgD kk ps),.d A.d,.d O.d] (.d A.d,none))
  (q16:Ca E1 13 [.d (rgD kk ps),.d A.d,.d Z.d] (.d Z.d,none))
  (sAB:Ca E1 12 [.d AB.d,.d AB.d] (.d (.v (.bool true)),none))
  (stAB:Ca E1 12 [.d tAB.d,.d tAB.d] (.d (.v (.bool true)),none))
  (sS3:Ca E1 12 [.d S3.d,.d S3.d] (.d (.v (.bool true)),none))
  (sT3:Ca E1 12 [.d T3.d,.d T3.d] (.d (.v (.bool true)),none))
  (sD:Ca E1 12 [.d D.d,.d D.d] (.d (.v (.bool true)),none))
  (sA:Ca E1 12 [.d A.d,.d A.d] (.d (.v (.bool true)),none))
  (sZ:Ca E1 12 [.d Z.d,.d Z.d] (.d (.v (.bool true)),none))
  : Ca E1 7 [.d (.v (.int .i64 k)),.d (.v (.int .i64 u)),.d (.v (.int .i64 v)),.d (.v (.int .i64 w))] (.d (.v (.bool true)),none):=by
 obtain ⟨n0,t0⟩:=hA.any
 obtain ⟨n1,t1⟩:=r1.any
 obtain ⟨n2,t2⟩:=r2.any
 obtain ⟨n3,t3⟩:=r3.any
 obtain ⟨n4,t4⟩:=r4.any
 obtain ⟨n5,t5⟩:=r5.any
 obtain ⟨n6,t6⟩:=r6.any
 obtain ⟨n7,t7⟩:=q1.any
 obtain ⟨n8,t8⟩:=q2.any
 obtain ⟨n9,t9⟩:=q3.any
 obtain ⟨n10,t10⟩:=q4.any
 obtain ⟨n11,t11⟩:=q5.any
 obtain ⟨n12,t12⟩:=q6.any
 obtain ⟨n13,t13⟩:=q7.any
 obtain ⟨n14,t14⟩:=q8.any
 obtain ⟨n15,t15⟩:=q9.any
 obtain ⟨n16,t16⟩:=q10.any
 obtain ⟨n17,t17⟩:=q11.any
 obtain ⟨n18,t18⟩:=q12.any
 obtain ⟨n19,t19⟩:=q13.any
 obtain ⟨n20,t20⟩:=q14.any
 obtain ⟨n21,t21⟩:=q15.any
 obtain ⟨n22,t22⟩:=q16.any
 obtain ⟨n23,t23⟩:=sAB.any
 obtain ⟨n24,t24⟩:=stAB.any
 obtain ⟨n25,t25⟩:=sS3.any
 obtain ⟨n26,t26⟩:=sT3.any
 obtain ⟨n27,t27⟩:=sD.any
 obtain ⟨n28,t28⟩:=sA.any
 obtain ⟨n29,t29⟩:=sZ.any
 obtain ⟨K,hK⟩:∃ K,K=n0+n1+n2+n3+n4+n5+n6+n7+n8+n9+n10+n11+n12+n13+n14+n15+n16+n17+n18+n19+n20+n21+n22+n23+n24+n25+n26+n27+n28+n29:=⟨_,rfl⟩
 replace t0:=t0 K (by omega)
 replace t1:=t1 K (by omega)
 replace t2:=t2 K (by omega)
 replace t3:=t3 K (by omega)
 replace t4:=t4 K (by omega)
 replace t5:=t5 K (by omega)
 replace t6:=t6 K (by omega)
 replace t7:=t7 K (by omega)
 replace t8:=t8 K (by omega)
 replace t9:=t9 K (by omega)
 replace t10:=t10 K (by omega)
 replace t11:=t11 K (by omega)
 replace t12:=t12 K (by omega)
 replace t13:=t13 K (by omega)
 replace t14:=t14 K (by omega)
 replace t15:=t15 K (by omega)
 replace t16:=t16 K (by omega)
 replace t17:=t17 K (by omega)
 replace t18:=t18 K (by omega)
 replace t19:=t19 K (by omega)
 replace t20:=t20 K (by omega)
 replace t21:=t21 K (by omega)
 replace t22:=t22 K (by omega)
 replace t23:=t23 K (by omega)
 replace t24:=t24 K (by omega)
 replace t25:=t25 K (by omega)
 replace t26:=t26 K (by omega)
 replace t27:=t27 K (by omega)
 replace t28:=t28 K (by omega)
 replace t29:=t29 K (by omega)
 obtain ⟨A1,A2,A3,A4,A5,A6,A7,A8,eA⟩:=A.wD_of
 obtain ⟨B1,B2,B3,B4,B5,B6,B7,B8,eB⟩:=B.wD_of
 obtain ⟨C1,C2,C3,C4,C5,C6,C7,C8,eC⟩:=C.wD_of
 obtain ⟨Z1,Z2,Z3,Z4,Z5,Z6,Z7,Z8,eZ⟩:=Z.wD_of
 obtain ⟨O1,O2,O3,O4,O5,O6,O7,O8,eO⟩:=O.wD_of
 obtain ⟨AB1,AB2,AB3,AB4,AB5,AB6,AB7,AB8,eAB⟩:=AB.wD_of
 obtain ⟨tAB1,tAB2,tAB3,tAB4,tAB5,tAB6,tAB7,tAB8,etAB⟩:=tAB.wD_of
 obtain ⟨BC1,BC2,BC3,BC4,BC5,BC6,BC7,BC8,eBC⟩:=BC.wD_of
 obtain ⟨S31,S32,S33,S34,S35,S36,S37,S38,eS3⟩:=S3.wD_of
 obtain ⟨tBC1,tBC2,tBC3,tBC4,tBC5,tBC6,tBC7,tBC8,etBC⟩:=tBC.wD_of
 obtain ⟨T31,T32,T33,T34,T35,T36,T37,T38,eT3⟩:=T3.wD_of
 obtain ⟨D1,D2,D3,D4,D5,D6,D7,D8,eD⟩:=D.wD_of
 obtain ⟨tAC1,tAC2,tAC3,tAC4,tAC5,tAC6,tAC7,tAC8,etAC⟩:=tAC.wD_of
 clear hK hA r1 r2 r3 r4 r5 r6 q1 q2 q3 q4 q5 q6 q7 q8 q9 q10 q11 q12 q13 q14 q15 q16 sAB stAB sS3 sT3 sD sA sZ
 simp only [eA,eB,eC,eZ,eO,eAB,etAB,eBC,eS3,etBC,eT3,eD,etAC,wD,rgD] at t0 t1 t2 t3 t4 t5 t6 t7 t8 t9 t10 t11 t12 t13 t14 t15 t16 t17 t18 t19 t20 t21 t22 t23 t24 t25 t26 t27 t28 t29
 clear eA eB eC eZ eO eAB etAB eBC eS3 etBC eT3 eD etAC
 refine Ca.ofS (n:=K+300) ?_
 rw [CL_fn rfl (k7:E1.fn _=_) rfl]
 generalize LK .i64 ps=l1 at *
 simp (maxSteps:=2000000) -implicitDefEqProofs [f7,t0,t1,t2,t3,t4,t5,t6,t7,t8,t9,t10,t11,t12,t13,t14,t15,t16,t17,t18,t19,t20,t21,t22,t23,t24,t25,t26,t27,t28,t29,norm_a]
theorem ca_law7 (hA:Ca E1 11 [] (.d (.v (.bool true)),none))(k u v w:Int)(hk:i64r k)(hu:i64r u)(hv:i64r v)(hw:i64r w):Ca E1 7 [.d (.v (.int .i64 k)),.d (.v (.int .i64 u)),.d (.v (.int .i64 v)),.d (.v (.int .i64 w))] (.d (.v (.bool true)),none):=by
 have hvr:=ring_valid k
 have hs:=ks_single hvr
 have oA:=madeL_ofs hvr u
 have oB:=madeL_ofs hvr v
 have oC:=madeL_ofs hvr w
 have cA:=ca_madeM hvr u hu
 have cB:=ca_madeM hvr v hv
 have cC:=ca_madeM hvr w hw
 have cZ:=ca_zerosM hvr
 have cO:=ca_onesM k
 have r1:=Ca.up1 (ca_ring k hk)
 generalize madeL (ringK k) (ringP k) u=a,madeL (ringK k) (ringP k) v=b,madeL (ringK k) (ringP k) w=c at *
 generalize ringK k=kk,ringP k=ps at *
 have oZ:=zeros_ofs (S:=9) (M:=2) (by omega) hs
 have oO:=ones_ofs (S:=9) (M:=2) (by omega) (by omega) hs
 have pAB:=plusL_ofs (by omega) hs oA oB
 have pBC:=plusL_ofs (by omega) hs oB oC
 have tAB:=timesL_ofs (by omega) (by omega) hs oA oB
 have tAC:=timesL_ofs (by omega) (by omega) hs oA oC
 have tBC:=timesL_ofs (by omega) (by omega) hs oB oC
 have A1:Ofs 19 4 _ a:=oA.mono (by omega) (by omega)
 have B1:Ofs 19 4 _ b:=oB.mono (by omega) (by omega)
 have C1:Ofs 19 4 _ c:=oC.mono (by omega) (by omega)
 have A2:Ofs 39 4 _ a:=oA.mono (by omega) (by omega)
 have C2:Ofs 39 4 _ c:=oC.mono (by omega) (by omega)
 have pS:=plusL_ofs (by omega) hs pAB C1
 have pD:=plusL_ofs (by omega) hs tAB tAC
 have pT:=timesL_ofs (by omega) (by omega) hs tAB C2
 have q2:=mk_plus hvr (by omega) (by omega) oB oA
 rw [plusL_comm (by omega) hs oB oA] at q2
 have q4:=mk_times hvr (by omega) (by omega) oB oA
 rw [timesL_comm (by omega) hs oB oA] at q4
 have q7:=mk_plus hvr (by omega) (by omega) A1 pBC
 rw [← plusL_assoc (by omega) hs oA oB oC] at q7
 have q10:=mk_times hvr (by omega) (by omega) A2 tBC
 rw [← timesL_assoc (by omega) hs oA oB oC] at q10
 have q11:=mk_times hvr (by omega) (by omega) A1 pBC
 rw [timesL_plus (by omega) hs oA oB oC] at q11
 have q14:=mk_plus hvr (by omega) (by omega) oA oZ
 rw [plusL_zero (by omega) hs oA] at q14
 have q15:=mk_times hvr (by omega) (by omega) oA oO
 rw [timesL_one (by omega) hs oA] at q15
 have q16:=mk_times hvr (by omega) (by omega) oA oZ
 rw [timesL_zero hs oA] at q16
 exact law7_body hA k u v w kk ps _ _ _ _ _ _ _ _ _ _ _ _ _ r1 cA cB cC cZ cO (mk_plus hvr (by omega) (by omega) oA oB) q2 (mk_times hvr (by omega) (by omega) oA oB) q4 (mk_plus hvr (by omega) (by omega) pAB C1) (mk_plus hvr (by omega) (by omega) oB oC) q7 (mk_times hvr (by omega) (by omega) tAB C2) (mk_times hvr (by omega) (by omega) oB oC) q10 q11 (mk_times hvr (by omega) (by omega) oA oC) (mk_plus hvr (by omega) (by omega) tAB tAC) q14 q15 q16
  (mk_same hvr (by omega) pAB) (mk_same hvr (by omega) tAB) (mk_same hvr (by omega) pS) (mk_same hvr (by omega) pT) (mk_same hvr (by omega) pD) (mk_same hvr (by omega) oA) (mk_same hvr (by omega) oZ)
end Fi.S
