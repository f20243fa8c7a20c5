/- The laws of sums and products; those of weightedref03. -/
import Derived.Test.YtonmcbnjifeagaaGreatDoorCO
set_option linter.unusedVariables false
set_option linter.unusedSimpArgs false
noncomputable section
namespace Fi.S
open Go Fi
set_option maxHeartbeats 1000000
theorem addE_comm (a b:Ex3):addE a b=addE b a:=by simp[addE,Int.add_comm]
theorem addE_assoc (a b c:Ex3):addE (addE a b) c=addE a (addE b c):=by simp[addE,Int.add_assoc]
theorem addP_nil {S:Nat}(hS:1<=S){a:List Ent}(ha:PV S a):addP a []=a :=
 PV.ext (addP_pv2 hS hS ha (PV.nil S)) ha (fun e=>by rw[addP_tot];simp only[tot];grind)
def cv (a:List Ent)(f:Ex3->Rat)(e:Ex3):Rat:=match a with
 | []=>0
 | p::r=>p.2*f (e.1-p.1.1,e.2.1-p.1.2.1,e.2.2-p.1.2.2)+cv r f e
def subE (e a:Ex3):Ex3:=(e.1-a.1,e.2.1-a.2.1,e.2.2-a.2.2)
theorem addE_eq (a b e:Ex3):addE a b=e↔b=subE e a:=by
 obtain⟨a1,a2,a3⟩:=a;obtain⟨b1,b2,b3⟩:=b;obtain⟨e1,e2,e3⟩:=e;simp only[addE,subE,Prod.mk.injEq];omega
theorem pairP_tot (p:Ent)(e:Ex3):∀ b:List Ent,tot (pairP p b) e=p.2*tot b (subE e p.1)
 | []=>by simp only[pairP,List.map_nil,tot];grind
 | q::r=>by
  have ih:=pairP_tot p e r;have h1:pairP p (q::r)=(addE p.1 q.1,p.2*q.2)::pairP p r:=rfl;obtain⟨qe,y⟩:=q;rw[h1];simp only[tot,ih]
  by_cases h:addE p.1 qe=e
  ·rw[if_pos h,if_pos ((addE_eq _ _ _).1 h)];grind
  ·rw[if_neg h,if_neg (fun h2=>h ((addE_eq _ _ _).2 h2))];grind
theorem pairE_tot (b:List Ent)(e:Ex3):∀ a:List Ent,tot (pairE a b) e=cv a (tot b) e
 | []=>rfl
 | p::a=>by
  have h1:pairE (p::a) b=pairP p b++pairE a b:=by simp[pairE]
  rw[h1,tot_append,pairE_tot b e a,pairP_tot];rfl
theorem tot_fits (l:List Ent)(e:Ex3):tot (l.filter fun p=>fitsE p.1) e=if fitsE e=true then tot l e else 0:=by
 induction l with
 | nil=>simp[tot]
 | cons p r ih =>
  obtain⟨a,y⟩:=p
  by_cases h:fitsE a=true
  ·rw[List.filter_cons_of_pos (p:=fun p:Ent=>fitsE p.1) h];simp only[tot,ih]
   by_cases h2:a=e
   ·subst h2;simp[h]
   ·simp only[if_neg h2];split<;>grind
  ·rw[List.filter_cons_of_neg (p:=fun p:Ent=>fitsE p.1) h,ih];simp only[tot]
   by_cases h2:a=e
   ·subst h2;simp[h]
   ·simp only[if_neg h2];split<;>grind
theorem mulP_cv (a b:List Ent)(e:Ex3):tot (mulP a b) e=if fitsE e=true then cv a (tot b) e else 0:=by
 rw[mulP_tot,<-pairE_filter,tot_fits,pairE_tot]
theorem cv_add (f g:Ex3->Rat)(e:Ex3):∀ a,cv a (fun x=>f x+g x) e=cv a f e+cv a g e
 | []=>by simp only[cv];grind
 | p::a=>by simp only[cv,cv_add f g e a];grind
theorem tot_pair_comm (e:Ex3):∀ a b:List Ent,tot (pairE a b) e=tot (pairE b a) e:=by
 have nilr:∀ a:List Ent,pairE a []=[]:=fun a=>by
  induction a with
  | nil=>rfl
  | cons p r ih =>
   have h1:pairE (p::r) []=pairP p []++pairE r []:=by simp[pairE]
   rw[h1,ih];rfl
 have consr:∀ (q:Ent) (b a:List Ent),tot (pairE a (q::b)) e=tot (pairP q a) e+tot (pairE a b) e:=by
  intro q b a
  induction a with
  | nil=>simp only[pairE,pairP,List.flatMap_nil,List.map_nil,tot];grind
  | cons p r ih =>
   have h1:pairE (p::r) (q::b)=pairP p (q::b)++pairE r (q::b):=by simp[pairE]
   have h2:pairE (p::r) b=pairP p b++pairE r b:=by simp[pairE]
   have h3:pairP p (q::b)=(addE p.1 q.1,p.2*q.2)::pairP p b:=rfl;have h4:pairP q (p::r)=(addE q.1 p.1,q.2*p.2)::pairP q r:=rfl;rw[h1,h2,tot_append,tot_append,h3,h4,ih];simp only[tot,addE_comm q.1 p.1];grind
 intro a
 induction a with
 | nil=>intro b;rw[nilr];rfl
 | cons p r ih =>
  intro b;have h1:pairE (p::r) b=pairP p b++pairE r b:=by simp[pairE]
  rw[h1,tot_append,consr,ih]
theorem mulP_comm {S:Nat}(hS:1<=S){a b:List Ent}(ha:PV S a)(hb:PV S b):mulP a b=mulP b a :=
 PV.ext (mulP_pv hS ha hb) (mulP_pv hS hb ha) (fun e=>by
  rw[mulP_tot,mulP_tot,<-pairE_filter,<-pairE_filter,tot_fits,tot_fits,tot_pair_comm])
theorem mulP_add {S:Nat}(hS:1<=S){a b c:List Ent}(ha:PV S a)(hb:PV S b)(hc:PV S c):mulP a (addP b c)=addP (mulP a b) (mulP a c):=by
 have h1:=addP_pv2 hS hS hb hc;refine PV.ext (mulP_pv hS ha h1) (addP_pv2 (by omega) (by omega) (mulP_pv hS ha hb) (mulP_pv hS ha hc)) (fun e => ?_);rw[addP_tot,mulP_cv,mulP_cv,mulP_cv];have h2:tot (addP b c)=fun x=>tot b x+tot c x:=by funext x;exact addP_tot b c x
 rw[h2,cv_add];split<;>grind
theorem pairP_pairE (p:Ent)(c:List Ent):∀ b:List Ent,pairE (pairP p b) c=pairP p (pairE b c)
 | []=>rfl
 | q::b=>by
  have h1:pairP p (q::b)=(addE p.1 q.1,p.2*q.2)::pairP p b:=rfl;have h2:∀ (x:Ent) (r:List Ent),pairE (x::r) c=pairP x c++pairE r c:=fun x r=>by simp[pairE]
  rw[h1,h2,h2,pairP_pairE p c b];have h3:pairP p (pairP q c++pairE b c)=pairP p (pairP q c)++pairP p (pairE b c):=by simp[pairP]
  rw[h3]
  congr 1
  unfold pairP;rw[List.map_map];refine List.map_congr_left fun r _ => ?_
  simp only[Function.comp,addE_assoc,Rat.mul_assoc]
theorem pairE_assoc (b c:List Ent):∀ a:List Ent,pairE (pairE a b) c=pairE a (pairE b c)
 | []=>rfl
 | p::a=>by
  have h1:pairE (p::a) b=pairP p b++pairE a b:=by simp[pairE]
  have h2:pairE (p::a) (pairE b c)=pairP p (pairE b c)++pairE a (pairE b c):=by simp[pairE]
  have h3:pairE (pairP p b++pairE a b) c=pairE (pairP p b) c++pairE (pairE a b) c:=by simp[pairE,List.flatMap_append]
  rw[h1,h2,h3,pairP_pairE,pairE_assoc b c a]
theorem cv_congr {f g:Ex3->Rat}{e:Ex3}:∀ {a:List Ent},(∀ p ∈ a,f (subE e p.1)=g (subE e p.1))->cv a f e=cv a g e
 | [],_=>rfl
 | p::a,h=>by
  have h1:=h p (List.mem_cons_self ..);have h2:=cv_congr (a:=a) (fun q hq=>h q (List.mem_cons_of_mem _ hq));show p.2*f (subE e p.1)+cv a f e=p.2*g (subE e p.1)+cv a g e;rw[h1,h2]
theorem mul_inner {a b:List Ent}(ha:Fits a)(hb:Fits b){c e:Ex3}(hc:fitsE c=true)(he:fitsE e=true):tot (mulP a b) (subE e c)=tot (pairE a b) (subE e c):=by
 rw[mulP_cv,pairE_tot];split
 ·rfl
 ·rename_i hf;rw[<-pairE_tot];symm;refine tot_not fun x hx hxe => ?_
  obtain⟨p,hp,hx⟩:=List.mem_flatMap.1 hx;obtain⟨q,hq,rfl⟩:=List.mem_map.1 hx;have h1:=fits_range (ha p hp);have h2:=fits_range (hb q hq);have h3:=fits_range hc;have h4:=fits_range he;apply hf;rw[fits_iff,<-hxe];have h5:addE p.1 q.1=subE e c:=hxe;simp only[addE,subE,Prod.mk.injEq]at h5 ⊢;omega
theorem mulP_assoc {S:Nat}(hS:1<=S){a b c:List Ent}(ha:PV S a)(hb:PV S b)(hc:PV S c):mulP (mulP a b) c=mulP a (mulP b c):=by
 have h1:=mulP_pv hS ha hb;have h2:=mulP_pv hS hb hc;refine PV.ext (mulP_pv (by omega) h1 hc) (mulP_pv hS ha h2) (fun e => ?_);rw[mulP_cv,mulP_cv];split
 ·rename_i he;rw[<-pairE_tot,tot_pair_comm,pairE_tot,cv_congr (g:=tot (pairE a b)) (fun p hp=>mul_inner ha.fits hb.fits (hc.fits p hp) he),<-pairE_tot,tot_pair_comm,pairE_assoc,pairE_tot];exact cv_congr fun p hp=>(mul_inner hb.fits hc.fits (ha.fits p hp) he).symm
 ·rfl
theorem mulP_one {S:Nat}(hS:1<=S){a:List Ent}(ha:PV S a)(h1:PV S (constP 1)):mulP a (constP 1)=a:=by
 refine PV.ext (mulP_pv hS ha h1) ha (fun e => ?_);have hc:constP 1=[((0,0,0),1)]:=if_neg (by decide);rw[mulP_cv,<-pairE_tot,tot_pair_comm,hc,pairE_tot];have h2:cv [((0,0,0),(1:Rat))] (tot a) e=tot a e:=by
  simp only[cv];have h3:((e.1-0,e.2.1-0,e.2.2-0):Ex3)=e:=by
   obtain⟨x,y,z⟩:=e;simp
  rw[h3];grind
 rw[h2];split
 ·rfl
 ·rename_i hf;exact(tot_not fun p hp hpe=>hf (by rw[<-hpe];exact ha.fits p hp)).symm
theorem wrap_nat64 (x:BitVec 64):IntKind.wrap .u64 (x.toNat:Int)=(x.toNat:Int):=by
 have h:=x.isLt;rw[<-wrapS_eq];exact wrap_u64 (by omega)
theorem or_nat (u v:Int):orV .u64 u v=((BitVec.ofInt 64 u ||| BitVec.ofInt 64 v).toNat:Int):=by
 rw[orV_eq];exact wrap_nat64 _
theorem and_nat (u v:Int):andV .u64 u v=((BitVec.ofInt 64 u &&& BitVec.ofInt 64 v).toNat:Int):=by
 rw[andV_eq];exact wrap_nat64 _
theorem u_nat {u:Int}(h:u64r u):((BitVec.ofInt 64 u).toNat:Int)=u:=by
 unfold u64r at h;rw[BitVec.toNat_ofInt];omega
theorem or_comm (u v:Int):orV .u64 u v=orV .u64 v u:=by rw[or_nat,or_nat,BitVec.or_comm]
theorem and_ones {u:Int}(h:u64r u):andV .u64 u 18446744073709551615=u:=by
 rw[and_nat];have h0:BitVec.ofInt 64 18446744073709551615=BitVec.allOnes 64:=by decide
 rw[h0,BitVec.and_allOnes,u_nat h]
section
theorem of1 {S M:Nat}{x:Sv}(h:x.of 1 S M):∃ q,x=.q q/\qz q<=S:=by
 cases x with
 | q x=>exact⟨x,rfl,h.2⟩
 | c i n=>exact absurd h.1 (by decide)
 | s u=>exact absurd h.1 (by decide)
 | p a=>exact absurd h.1 (by decide)
theorem of2 {S M:Nat}{x:Sv}(h:x.of 2 S M):∃ i n,x=.c i n/\0<=n/\n<=1099511627776/\(i=true->n=0):=by
 cases x with
 | c i n=>exact⟨i,n,rfl,h.2⟩
 | q x=>rcases h.1 with h | h;exact absurd h (by decide);exact absurd h.1 (by decide)
 | s u=>exact absurd h.1 (by decide)
 | p a=>exact absurd h.1 (by decide)
theorem of3 {S M:Nat}{x:Sv}(h:x.of 3 S M):∃ q,x=.q q/\0<=q/\q<=1/\qz q<=S:=by
 cases x with
 | q x =>
  rcases h.1 with h1|h1
  ·exact absurd h1 (by decide)
  ·exact⟨x,rfl,h1.2.1,h1.2.2,h.2⟩
 | c i n=>exact absurd h.1 (by decide)
 | s u=>exact absurd h.1 (by decide)
 | p a=>exact absurd h.1 (by decide)
theorem of4 {S M:Nat}{x:Sv}(h:x.of 4 S M):∃ u,x=.s u/\u64r u:=by
 cases x with
 | s u=>exact⟨u,rfl,h.2⟩
 | q x=>rcases h.1 with h | h;exact absurd h (by decide);exact absurd h.1 (by decide)
 | c i n=>exact absurd h.1 (by decide)
 | p a=>exact absurd h.1 (by decide)
theorem of5 {S M:Nat}{x:Sv}(h:x.of 5 S M):∃ a,x=.p a/\PV S a/\a.length<=M:=by
 cases x with
 | p a=>exact⟨a,rfl,h.2⟩
 | q x=>rcases h.1 with h | h;exact absurd h (by decide);exact absurd h.1 (by decide)
 | c i n=>exact absurd h.1 (by decide)
 | s u=>exact absurd h.1 (by decide)
def oneK (k:Int):Sv:=if k=2 then .c false 0 else if k=4 then .s 18446744073709551615 else if k=5 then .p (constP 1) else .q 1
theorem oneK_of {k:Int}(hk:single k=true)(S M:Nat)(hS:1<=S)(hM:1<=M):(oneK k).of k S M:=by
 rcases single_five hk with rfl|rfl|rfl|rfl|rfl
 ·exact⟨.inl rfl,Nat.le_trans qz_one hS⟩
 ·exact⟨rfl,by decide,by decide,fun _=>rfl⟩
 ·exact⟨.inr ⟨rfl,by decide,by decide⟩,Nat.le_trans qz_one hS⟩
 ·exact⟨rfl,by decide,by decide⟩
 ·exact⟨rfl,constP_pv (Nat.le_trans qz_one hS),Nat.le_trans (const_len 1) hM⟩
theorem pl1 (x y:Rat):plusK 1 (.q x) (.q y)=.q (x+y):=rfl
theorem pl3 (x y:Rat):plusK 3 (.q x) (.q y)=.q (if x<y then y else x):=by
 show(if x<y then Sv.q y else .q x)=_;split<;>rfl
theorem pl2 (i j:Bool)(n m:Int):plusK 2 (.c i n) (.c j m)=if lessC j m i n then .c j m else .c i n:=rfl
theorem pl4 (u v:Int):plusK 4 (.s u) (.s v)=.s (orV .u64 u v):=rfl
theorem pl5 (a b:List Ent):plusK 5 (.p a) (.p b)=.p (addP a b):=rfl
theorem ti1 (x y:Rat):timesK (.q x) (.q y)=.q (x*y):=rfl
theorem ti2 (i j:Bool)(n m:Int):timesK (.c i n) (.c j m)=if i||(j||decide (1099511627776<n+m)) then .c true 0 else .c false (n+m):=rfl
theorem ti4 (u v:Int):timesK (.s u) (.s v)=.s (andV .u64 u v):=rfl
theorem ti5 (a b:List Ent):timesK (.p a) (.p b)=.p (mulP a b):=rfl
section laws
variable {k:Int} {S M:Nat} {x y z:Sv}
theorem times_one (hk:single k=true)(hS:1<=S)(hx:x.of k S M):timesK x (oneK k)=x:=by
 rcases single_five hk with rfl|rfl|rfl|rfl|rfl
 ·obtain⟨a,rfl,_⟩:=of1 hx;show Sv.q (a*1)=_;rw[Rat.mul_one]
 ·obtain⟨i,n,rfl,h1,h2,h3⟩:=of2 hx;show(if i||(false||decide (1099511627776<n+0)) then Sv.c true 0 else .c false (n+0))=_;cases i
  ·have:¬ 1099511627776<n+0:=by omega
   simp[this];omega
  ·rw[h3 rfl];rfl
 ·obtain⟨a,rfl,_⟩:=of3 hx;show Sv.q (a*1)=_;rw[Rat.mul_one]
 ·obtain⟨u,rfl,hu⟩:=of4 hx;show Sv.s (andV .u64 u 18446744073709551615)=_;rw[and_ones hu]
 ·obtain⟨a,rfl,ha,_⟩:=of5 hx;show Sv.p (mulP a (constP 1))=_;rw[mulP_one hS ha (constP_pv (Nat.le_trans qz_one hS))]
end laws
end
set_option maxHeartbeats 8000000
section
def ksO (kk:Int)(ps:List Int):List Int:=if kk=6 then ps else [kk]
def mkW (kk:Int)(xs:List Sv):W:=if kk=6 then wProd (xs.map Sv.w) else(xs.headD (.q 0)).w
noncomputable def timesL (xs ys:List Sv):List Sv:=(xs.zip ys).map fun p=>timesK p.1 p.2
theorem ks_single {kk:Int}{ps:List Int}(h:validRg kk ps=true):∀ k ∈ ksO kk ps,single k=true:=by
 unfold ksO;split
 ·rename_i h6;subst h6;exact(rg6 h).2.2
 ·rename_i h6;unfold validRg at h;rw[if_pos h6]at h;simp only[Bool.and_eq_true]at h;intro k hk;rw[List.mem_singleton]at hk;subst hk;exact h.1
theorem Ofs.mono {S T M M':Nat}{ks:List Int}{xs:List Sv}(h:Ofs S M ks xs)(hST:S<=T)(hM:M<=M'):Ofs T M' ks xs:=⟨h.1,fun i k x hk hx=>(h.2 i k x hk hx).mono hST hM⟩
section laws
variable {S M:Nat} {ks:List Int} {xs ys zs:List Sv}
theorem map_at {f:Int->Sv}{i:Nat}{k:Int}{z:Sv}(hk:ks[i]?=some k)(h:(ks.map f)[i]?=some z):z=f k:=by
 rw[List.getElem?_map,hk]at h;exact(Option.some.inj h).symm
theorem ones_ofs (hS:1<=S)(hM:1<=M)(hs:∀ k ∈ ks,single k=true):Ofs S M ks (ks.map oneK):=⟨by simp,fun i k x hk hx=>by rw[map_at hk hx];exact oneK_of (hs k (List.mem_of_getElem? hk)) S M hS hM⟩
end laws
section ring
variable {kk:Int} {ps:List Int} {S M:Nat} {xs ys:List Sv}
theorem one_list {k:Int}(h:Ofs S M [k] xs):∃ x,xs=[x]/\x.of k S M:=by
 match xs,h with
 | [x],h=>exact⟨x,rfl,h.2 0 k x rfl rfl⟩
 | [],h=>simp[Ofs]at h
 | _::_::_,h=>simp[Ofs]at h
theorem simple_ps (h:validRg kk ps=true)(h6:kk≠6):ps=[]/\single kk=true:=by
 unfold validRg at h;rw[if_pos h6]at h;simp only[Bool.and_eq_true,decide_eq_true_eq]at h;exact⟨h.2,h.1⟩
theorem mk_ok (hv:validRg kk ps=true)(hS:S<=1000)(h:Ofs S M (ksO kk ps) xs):(mkW kk xs).OK:=by
 unfold mkW
 by_cases h6:kk=6
 ·subst h6;rw[if_pos rfl];unfold ksO at h;rw[if_pos rfl]at h;exact ok_prod hS (rg6 hv).1 h
 ·rw[if_neg h6];unfold ksO at h;rw[if_neg h6]at h;obtain⟨x,rfl,hx⟩:=one_list h;exact ok_of hx hS
theorem mk_check (hv:validRg kk ps=true)(h:Ofs S M (ksO kk ps) xs):checkB kk ps (mkW kk xs)=true:=by
 unfold mkW
 by_cases h6:kk=6
 ·subst h6;rw[if_pos rfl];unfold ksO at h;rw[if_pos rfl]at h;exact check_prod hv h
 ·rw[if_neg h6];unfold ksO at h;rw[if_neg h6]at h;obtain⟨x,rfl,hx⟩:=one_list h;unfold checkB;rw[hv,if_pos h6];exact chk_of hx
theorem len_ps (hv:validRg kk ps=true):ps.length<=1000000:=by
 by_cases h6:kk=6
 ·subst h6;have:=(rg6 hv).1;omega
 ·rw[(simple_ps hv h6).1];simp
theorem mk_value (hv:validRg kk ps=true)(hS:S<=1000)(h:Ofs S M (ksO kk ps) xs):Ca E1 41 [.d (rgD kk ps),.d (mkW kk xs).d] (.d (mkW kk xs).d,none) :=
 ca_value_yes (len_ps hv) (mk_ok hv hS h) (mk_check hv h)
theorem mk_same (hv:validRg kk ps=true)(hS:S<=1000)(h:Ofs S M (ksO kk ps) xs):Ca E1 12 [.d (mkW kk xs).d,.d (mkW kk xs).d] (.d (.v (.bool true)),none):=by
 have hok:=mk_ok hv hS h;have:=ca_wEqual _ hok _ hok;rw[W.eq_refl]at this;exact Ca.up1 this
end ring
end
end Fi.S
noncomputable section
namespace Fi.S
open Go Fi
set_option maxHeartbeats 8000000
set_option maxRecDepth 10000
def olit (k:Int):D :=
 if k=4 then .a [.v (.bool false),.s 1 [],.s 1 [],.v (.int .i64 0),.v (.bool false),.v (.int .u64 18446744073709551615),.s 6 [],.s 8 []]
 else if k=2 then .a [.v (.bool false),.s 1 [],.s 1 [],.v (.int .i64 0),.v (.bool false),.v (.int .u64 0),.s 6 [],.s 8 []]
 else if k=5 then .a [.v (.bool false),.s 1 [],.s 1 [],.v (.int .i64 0),.v (.bool false),.v (.int .u64 0),poly1,.s 8 []]
 else .a [.v (.bool false),.s 1 [.v (.int .u32 1)],.s 1 [],.v (.int .i64 0),.v (.bool false),.v (.int .u64 0),.s 6 [],.s 8 []]
def olitD (k:Int)(ps:List Int):D:=if k=6 then .a [.v (.bool false),.s 1 [],.s 1 [],.v (.int .i64 0),.v (.bool false),.v (.int .u64 0),.s 6 [],.s 8 (ps.map olit)] else olit k
def ocB (k:Int)(ps:List Int):Bool :=
 match callN E6 3000 27 [.d (rgD k ps)] [] with
 | some (.d z,none)=>sameD z (olitD k ps)
 | _=>false
theorem oneK_d {k:Int}(hk:single k=true):(oneK k).w.d=olit k:=by
 have h1:qs 1=false:=by decide
 have h2:qn 1=[1]:=by
  show enc 1=[1]
  exact enc_small (by omega) (by omega)
 have h3:qd 1=[]:=if_pos rfl;have hc:constP 1=[((0,0,0),1)]:=if_neg (by decide);rcases single_five hk with rfl|rfl|rfl|rfl|rfl
 ·simp[oneK,olit,Sv.w,W.d,W.ds,PD,LD,LL,h1,h2,h3]
 ·simp[oneK,olit,Sv.w,W.d,W.ds,PD,LD,LL]
 ·simp[oneK,olit,Sv.w,W.d,W.ds,PD,LD,LL,h1,h2,h3]
 ·simp[oneK,olit,Sv.w,W.d,W.ds,PD,LD,LL]
 ·simp[oneK,olit,Sv.w,W.d,W.ds,PD,LD,LL,hc,entMo,Mo.d,h1,h2,h3,poly1]
theorem ones_d {kk:Int}{ps:List Int}(h:validRg kk ps=true):(mkW kk ((ksO kk ps).map oneK)).d=olitD kk ps:=by
 have hs:=ks_single h;unfold mkW ksO olitD at*
 by_cases h6:kk=6
 ·subst h6;simp only[if_true]at*;have:W.ds ((ps.map oneK).map Sv.w)=ps.map olit:=by
   rw[W.ds_map,List.map_map,List.map_map];exact List.map_congr_left fun x hx=>oneK_d (hs x hx)
  show D.a [.v (.bool false),.s 1 [],.s 1 [],.v (.int .i64 0),.v (.bool false),.v (.int .u64 0),.s 6 [],.s 8 (W.ds ((ps.map oneK).map Sv.w))]=_;rw[this]
 ·simp only[if_neg h6]at*;exact oneK_d (hs kk (by simp))
theorem ring_cases (k:Int):(ringK k=6/\(ringP k=[1,2]\/ringP k=[3,4,5]))\/((ringK k=1\/ringK k=2\/ringK k=3\/ringK k=4\/ringK k=5)/\ringP k=[]):=by
 have h1:=Int.emod_nonneg k (show(7:Int)≠0 by omega);have h2:=Int.emod_lt_of_pos k (show(0:Int)<7 by omega);unfold ringK ringP
 by_cases h5:k % 7=5
 ·left;rw[if_pos (.inl h5),if_pos h5];exact⟨rfl,.inl rfl⟩
 ·by_cases h6:k % 7=6
  ·left;rw[if_pos (.inr h6),if_neg h5,if_pos h6];exact⟨rfl,.inr rfl⟩
  ·right
   rw[if_neg (by rintro(h|h)<;>contradiction),if_neg h5,if_neg h6];exact⟨by omega,rfl⟩
theorem ring_valid (k:Int):validRg (ringK k) (ringP k)=true:=by
 rcases ring_cases k with ⟨h1,h2|h2⟩|⟨h1|h1|h1|h1|h1,h2⟩<;>rw[h1,h2]<;>decide
noncomputable def madeL (kk:Int) (ps:List Int) (v:Int):List Sv:=if kk=6 then(List.range ps.length).map fun i=>madeS (ps.getD i 0) (wrapS .i64 (v+i)) else [madeS kk v]
theorem made_simple {k:Int}(hk:single k=true)(v:Int)(hv:i64r v):Ca E1 16 [.d (rgD k []),.d (.v (.int .i64 v))] (.d (madeS k v).w.d,none):=by
 unfold madeS;rcases single_five hk with rfl|rfl|rfl|rfl|rfl
 ·exact made1 v hv
 ·exact made2 v hv
 ·exact made3' v hv
 ·exact made4 v hv
 ·exact made5 v hv
theorem wrap_r (z:Int):i64r (wrapS .i64 z):=by
 have h:=Go.wf_wrap .i64 z;rw[wrapS_eq];exact wf_i64 h
theorem madeL_ofs {kk:Int}{ps:List Int}(h:validRg kk ps=true)(v:Int):Ofs 9 2 (ksO kk ps) (madeL kk ps v):=by
 have hs:=ks_single h;unfold madeL ksO at*
 by_cases h6:kk=6
 ·simp only[if_pos h6]at*;refine⟨by simp,fun i k x hk hx => ?_⟩;have hi:i<ps.length:=(List.getElem?_eq_some_iff.1 hk).1;rw[List.getElem?_map,List.getElem?_range hi]at hx;simp only[Option.map_some,Option.some.injEq]at hx;subst hx;have hg:ps.getD i 0=k:=by rw[List.getD_eq_getElem?_getD,hk];rfl
  rw[hg];exact made_of (hs k (List.mem_of_getElem? hk)) _
 ·simp only[if_neg h6]at*;refine⟨rfl,fun i k x hk hx => ?_⟩
  match i with
  | 0 =>
   cases hk;cases hx;exact made_of (hs kk (by simp)) v
  | i+1=>cases hk
theorem ca_madeM {kk:Int}{ps:List Int}(h:validRg kk ps=true)(v:Int)(hv:i64r v):Ca E1 16 [.d (rgD kk ps),.d (.v (.int .i64 v))] (.d (mkW kk (madeL kk ps v)).d,none):=by
 have hs:=ks_single h;unfold madeL mkW ksO at*
 by_cases h6:kk=6
 ·subst h6;simp only[if_true]at*;refine ca_madeP v ps _ (rg6 h).1 (by simp) (fun i k z hk hz => ?_);have hi:i<ps.length:=(List.getElem?_eq_some_iff.1 hk).1;rw[List.getElem?_map,List.getElem?_map,List.getElem?_range hi]at hz;simp only[Option.map_some,Option.some.injEq]at hz;subst hz;have hg:ps.getD i 0=k:=by rw[List.getD_eq_getElem?_getD,hk];rfl
  rw[hg];exact made_simple (hs k (List.mem_of_getElem? hk)) _ (wrap_r _)
 ·simp only[if_neg h6]at*;obtain⟨rfl,hk⟩:=simple_ps h h6;exact made_simple hk v hv
end Fi.S
namespace Fi.S
open Go Fi
set_option maxHeartbeats 8000000
attribute [local simp] oo og ci ml mv ld lf fa lo st0 cl ia lr fl ln sv fb mF mi mn bx bc bl pF pT sl EX_skip EX_ret EX_exit EX_kill EX_seq EX_cond EX_block EX_region ROps_nil ROps_cons RK_mov RK_pick RK_bin RK_conv RK_beq RK_aeq RK_nileq RK_un RK_box RK_new RK_load RK_store RK_faddr RK_field RK_iaddr RK_aaddr RK_index RK_build RK_lit RK_len RK_maxi RK_mini RK_app RK_slice RK_mk RK_ext RK_clo RK_call RK_callv RK_callr RK_callw RK_loadl RK_mkmap RK_mget RK_mput RK_cap RK_appz callFull RK_slen RK_sindex RK_sslice guardV runK argV argsV doCall callPure D.cells FV.cells FV.one D.one oneV St.push St.heap St.setHeap splice partF partD s_add s_sub s_mul s_quo s_rem s_or s_and s_xor s_shl s_shr s_eql s_neq s_lss s_leq s_gtr s_geq unV setVars killVars apartOk finish ressV resV leavesL leaves leaveL leave1 allD mkA fillF finish2 isPure oneOf freezeAll FV.rows FV.rows1 D.norm D.norm1 scalar D.isV FV.shift FV.shiftL AObj.shift pureElem fillE elems FStmt.l FStmt.r FStmt.bl FStmt.lp
set_option maxRecDepth 10000
theorem sv_fields {k:Int}{S M:Nat}(hS:S<=1000){x:Sv}(h:x.of k S M):∃ s l1 l2 c b u p,x.w.d=wD s l1 l2 c b u p [] /\
  Ca E1 85 [.d (.a [.v (.bool s),.s 1 l1,.s 1 l2])] (.d (.a [.v (.bool s),.s 1 l1,.s 1 l2]),none)/\Ca E1 86 [.d (.s 6 p)] (.d (.s 6 p),none):=by
 have t0:=Ca.up1 (ca_wtake 0 (by have:=qz_zero;omega));rw[qD_zero]at t0;obtain⟨_,p0,rfl⟩:=ca_take (PV.nil S) hS;cases x with
 | q x =>
  have:=h.2;exact⟨_,_,_,_,_,_,_,rfl,Ca.up1 (ca_wtake x (by omega)),p0⟩
 | c i n=>exact⟨_,_,_,_,_,_,_,rfl,t0,p0⟩
 | s u=>exact⟨_,_,_,_,_,_,_,rfl,t0,p0⟩
 | p l =>
  obtain⟨_,t1,rfl⟩:=ca_take h.2.1 hS;exact⟨_,_,_,_,_,_,_,wP_d l,t0,t1⟩
theorem ca_part (kk:Int)(ps:List Int)(i:Nat)(j:Int)(hj:j=i)(a:Int)(h:ps[i]?=some a):Ca E1 56 [.d (rgD kk ps),.d (.v (.int .i64 j))] (.d (rgD a []),none):=by
 subst hj;have e1:(LK .i64 ps)[i]?=some (.v (.int .i64 a)):=by simp[LK,h]
 have hl:i<(LK .i64 ps).length:=(List.getElem?_eq_some_iff.1 e1).1;have h0:(0:Int)<=(i:Int):=by omega
 refine Ca.ofS (n:=60) ?_;rw[CL_fn rfl (k56:E1.fn _=_) rfl];have e2:=idx e1;have e0:LK .i64 []=[]:=rfl;unfold rgD;rw[e0];generalize LK .i64 ps=l1 at*;simp -implicitDefEqProofs [f56,e1,e2,hl,h0]
theorem wr1:wrapS .i64 1=1:=wrap_i64 (by omega)
theorem wr2:wrapS .i64 2=2:=wrap_i64 (by omega)
theorem wr3:wrapS .i64 3=3:=wrap_i64 (by omega)
theorem single_valid {k:Int}(hk:single k=true):validRg k []=true/\k≠6:=by
 have h6:k≠6:=by
  rintro rfl;exact absurd hk (by decide)
 exact⟨by unfold validRg;rw[if_pos h6,hk];rfl,h6⟩
theorem mk_cases {kk:Int}{ps:List Int}{S M:Nat}{xs:List Sv}(hv:validRg kk ps=true)(h:Ofs S M (ksO kk ps) xs) :
  (single kk=true/\ps=[]/\∃ x,xs=[x]/\x.of kk S M) \/
  (kk=6/\∃ a b x y,ps=[a,b]/\xs=[x,y]/\single a=true/\single b=true/\x.of a S M/\y.of b S M) \/
  (kk=6/\∃ a b c x y z,ps=[a,b,c]/\xs=[x,y,z]/\single a=true/\single b=true/\single c=true/\x.of a S M/\y.of b S M/\z.of c S M):=by
 have hs:=ks_single hv
 by_cases h6:kk=6
 ·subst h6;obtain⟨l3,l2,_⟩:=rg6 hv;unfold ksO at*;rw[if_pos rfl]at h hs;have hl:=h.1
  match ps,xs,l3,l2,hl with
  | [a,b],[x,y],_,_,_=>exact .inr (.inl ⟨rfl,a,b,x,y,rfl,rfl,hs a (by simp),hs b (by simp),h.2 0 a x rfl rfl,h.2 1 b y rfl rfl⟩)
  | [a,b,c],[x,y,z],_,_,_=>exact .inr (.inr ⟨rfl,a,b,c,x,y,z,rfl,rfl,hs a (by simp),hs b (by simp),hs c (by simp),h.2 0 a x rfl rfl,h.2 1 b y rfl rfl,h.2 2 c z rfl rfl⟩)
 ·obtain⟨rfl,hk⟩:=simple_ps hv h6;unfold ksO at h;rw[if_neg h6]at h;obtain⟨x,rfl,hx⟩:=one_list h;exact .inl ⟨hk,rfl,x,rfl,hx⟩
theorem mk_one {k:Int}(hk:single k=true)(x:Sv):mkW k [x]=x.w:=if_neg (single_valid hk).2
theorem ofs_one {k:Int}(hk:single k=true){S M:Nat}{x:Sv}(h:x.of k S M):Ofs S M (ksO k []) [x]:=by
 unfold ksO;rw[if_neg (single_valid hk).2];exact⟨rfl,fun i k' x' h1 h2=>by
  match i with
  | 0=>cases h1;cases h2;exact h
  | i+1=>cases h1⟩
theorem take_S {k:Int}(hk:single k=true){S M:Nat}(hS1:1<=S)(hS:S<=1000){x:Sv}(h:x.of k S M):Ca E1 53 [.d (rgD k []),.d x.w.d] (.d x.w.d,none):=by
 have hc:=Ca.up1 (ca_wCheck k [] x.w (by simp) (ok_of h hS));have hm:=mk_check (single_valid hk).1 (ofs_one hk h);rw[mk_one hk]at hm;rw[hm]at hc;obtain⟨s,l1,l2,c,b,u,p,e,t1,t2⟩:=sv_fields hS h;rw[e]at hc ⊢;obtain⟨n0,a0⟩:=hc.any;obtain⟨n1,a1⟩:=t1.any;obtain⟨n2,a2⟩:=t2.any;obtain⟨K,hK⟩:∃ K,K=n0+n1+n2:=⟨_,rfl⟩
 replace a0:=a0 K (by omega);replace a1:=a1 K (by omega);replace a2:=a2 K (by omega);clear hc t1 t2 e h hm hK;refine Ca.ofS (n:=K+200) ?_;rw[CL_fn rfl (k53:E1.fn _=_) rfl];unfold wD rgD at*;generalize LK .i64 []=l0 at*;simp -implicitDefEqProofs [EX_loop,f53,a0,a1,a2]
theorem prod_d (xs:List Sv):(wProd (xs.map Sv.w)).d=wD false [] [] 0 false 0 [] (xs.map fun x=>x.w.d):=by
 show D.a [.v (.bool false),.s 1 [],.s 1 [],.v (.int .i64 0),.v (.bool false),.v (.int .u64 0),.s 6 [],.s 8 (W.ds (xs.map Sv.w))]=_;rw[W.ds_map,List.map_map];rfl
theorem take_facts {ps:List Int}{S M:Nat}{xs:List Sv}(hv:validRg 6 ps=true)(hS1:1<=S)(hS:S<=1000)(h:Ofs S M ps xs) :
  Ca E1 29 [.d (rgD 6 ps),.d (wD false [] [] 0 false 0 [] (xs.map fun x=>x.w.d))] (.d (.v (.bool true)),none)/\Ca E1 85 [.d (.a [.v (.bool false),.s 1 [],.s 1 []])] (.d (.a [.v (.bool false),.s 1 [],.s 1 []]),none)/\Ca E1 86 [.d (.s 6 [])] (.d (.s 6 []),none):=by
 have hc:=Ca.up1 (ca_wCheck 6 ps (wProd (xs.map Sv.w)) (len_ps hv) (ok_prod hS (rg6 hv).1 h));rw[check_prod hv h,prod_d]at hc;have t0:=Ca.up1 (ca_wtake 0 (by have:=qz_zero;omega));rw[qD_zero]at t0;obtain⟨_,p0,rfl⟩:=ca_take (PV.nil S) hS;exact⟨hc,t0,p0⟩
theorem mk_take {kk:Int}{ps:List Int}{S M:Nat}{xs:List Sv}(hv:validRg kk ps=true)(hS1:1<=S)(hS:S<=1000)(h:Ofs S M (ksO kk ps) xs):Ca E1 53 [.d (rgD kk ps),.d (mkW kk xs).d] (.d (mkW kk xs).d,none):=by
 rcases mk_cases hv h with ⟨hk,rfl,x,rfl,hx⟩|⟨rfl,a,b,x,y,rfl,rfl,ha,hb,hx,hy⟩|⟨rfl,a,b,c,x,y,z,rfl,rfl,ha,hb,hc,hx,hy,hz⟩
 ·rw[mk_one hk];exact take_S hk hS1 hS hx
 ·obtain⟨f1,f2,f3⟩:=take_facts hv hS1 hS h;obtain⟨m0,a0⟩:=(f1).any;obtain⟨m1,a1⟩:=(f2).any;obtain⟨m2,a2⟩:=(f3).any;obtain⟨m3,b0⟩:=(take_S ha hS1 hS hx).any;obtain⟨m4,b1⟩:=(take_S hb hS1 hS hy).any;obtain⟨m5,p0⟩:=(ca_part 6 [a,b] 0 0 rfl a rfl).any;obtain⟨m6,p1⟩:=(ca_part 6 [a,b] 1 1 rfl b rfl).any;obtain⟨K,hK⟩:∃ K,K=m0+m1+m2+m3+m4+m5+m6:=⟨_,rfl⟩
  replace a0:=a0 K (by omega);replace a1:=a1 K (by omega);replace a2:=a2 K (by omega);replace b0:=b0 K (by omega);replace b1:=b1 K (by omega);replace p0:=p0 K (by omega);replace p1:=p1 K (by omega);have e0:∀ l,mkW 6 l=wProd (l.map Sv.w):=fun _=>rfl
  rw[e0,prod_d];simp only[List.map_cons,List.map_nil]at*;obtain⟨xs,x1,x2,xc,xb,xu,xp,xq,ex⟩:=x.w.wD_of;obtain⟨ys,y1,y2,yc,yb,yu,yp,yq,ey⟩:=y.w.wD_of;simp only[ex,ey]at*;clear hK f1 f2 f3 e0 h hv hx hy ex ey;refine Ca.ofS (n:=K+500) ?_;rw[CL_fn rfl (k53:E1.fn _=_) rfl];unfold wD rgD at*;generalize LK .i64 []=l0 at*;simp only[show LK .i64 [a,b]=[.v (.int .i64 a),.v (.int .i64 b)] from rfl]at*;simp (maxSteps:=500000) -implicitDefEqProofs [EX_loop,f53,a0,a1,a2,b0,b1,p0,p1,most,wr1,wr2,wr3,AObj.view]
 ·obtain⟨f1,f2,f3⟩:=take_facts hv hS1 hS h;obtain⟨m0,a0⟩:=(f1).any;obtain⟨m1,a1⟩:=(f2).any;obtain⟨m2,a2⟩:=(f3).any;obtain⟨m3,b0⟩:=(take_S ha hS1 hS hx).any;obtain⟨m4,b1⟩:=(take_S hb hS1 hS hy).any;obtain⟨m5,b2⟩:=(take_S hc hS1 hS hz).any;obtain⟨m6,p0⟩:=(ca_part 6 [a,b,c] 0 0 rfl a rfl).any;obtain⟨m7,p1⟩:=(ca_part 6 [a,b,c] 1 1 rfl b rfl).any;obtain⟨m8,p2⟩:=(ca_part 6 [a,b,c] 2 2 rfl c rfl).any;obtain⟨K,hK⟩:∃ K,K=m0+m1+m2+m3+m4+m5+m6+m7+m8:=⟨_,rfl⟩
  replace a0:=a0 K (by omega);replace a1:=a1 K (by omega);replace a2:=a2 K (by omega);replace b0:=b0 K (by omega);replace b1:=b1 K (by omega);replace b2:=b2 K (by omega);replace p0:=p0 K (by omega);replace p1:=p1 K (by omega);replace p2:=p2 K (by omega);have e0:∀ l,mkW 6 l=wProd (l.map Sv.w):=fun _=>rfl
  rw[e0,prod_d];simp only[List.map_cons,List.map_nil]at*;obtain⟨xs,x1,x2,xc,xb,xu,xp,xq,ex⟩:=x.w.wD_of;obtain⟨ys,y1,y2,yc,yb,yu,yp,yq,ey⟩:=y.w.wD_of;obtain⟨zs,z1,z2,zc,zb,zu,zp,zq,ez⟩:=z.w.wD_of;simp only[ex,ey,ez]at*;clear hK f1 f2 f3 e0 h hv hx hy hz ex ey ez;refine Ca.ofS (n:=K+500) ?_;rw[CL_fn rfl (k53:E1.fn _=_) rfl];unfold wD rgD at*;generalize LK .i64 []=l0 at*;simp only[show LK .i64 [a,b,c]=[.v (.int .i64 a),.v (.int .i64 b),.v (.int .i64 c)] from rfl]at*;simp (maxSteps:=500000) -implicitDefEqProofs [EX_loop,f53,a0,a1,a2,b0,b1,b2,p0,p1,p2,most,wr1,wr2,wr3,AObj.view]
theorem q_d (x:Rat):∃ s n d,(Sv.q x).w.d=wD s n d 0 false 0 [] []/\qD x=.a [.v (.bool s),.s 1 n,.s 1 d]:=⟨_,_,_,rfl,rfl⟩
theorem wplus_S {k:Int}(hk:single k=true){S M:Nat}(hS1:1<=S)(hS:S<=1000){x y:Sv}(hx:x.of k S M)(hy:y.of k S M) :
  Ca E1 19 [.d (rgD k []),.d x.w.d,.d y.w.d] (.d (plusK k x y).w.d,none):=by
 have tv:=Ca.up1 (Ca.ofS (run_wrvalid 0 k []));rw[(single_valid hk).1]at tv;have tx:=take_S hk hS1 hS hx;have ty:=take_S hk hS1 hS hy;rcases single_five hk with rfl|rfl|rfl|rfl|rfl
 ·obtain⟨a,rfl,ha⟩:=of1 hx;obtain⟨b,rfl,hb⟩:=of1 hy;obtain⟨m0,a0⟩:=(tv).any;obtain⟨m1,a1⟩:=(tx).any;obtain⟨m2,a2⟩:=(ty).any;obtain⟨m3,a3⟩:=(Ca.up1 (ca_wadd a b (by omega) (by omega))).any;obtain⟨K,hK⟩:∃ K,K=m0+m1+m2+m3:=⟨_,rfl⟩
  replace a0:=a0 K (by omega);replace a1:=a1 K (by omega);replace a2:=a2 K (by omega);replace a3:=a3 K (by omega);obtain⟨s1,n1,d1,e1,g1⟩:=q_d a;obtain⟨s2,n2,d2,e2,g2⟩:=q_d b;rw[pl1];obtain⟨s3,n3,d3,e3,g3⟩:=q_d (a+b);rw[g1,g2,g3]at a3;rw[e1]at a1 ⊢;rw[e2]at a2 ⊢;rw[e3];clear hK tv tx ty;refine Ca.ofS (n:=K+300) ?_;rw[CL_fn rfl (k19:E1.fn _=_) rfl]
  (try unfold wD at*)
  unfold rgD at*;generalize LK .i64 []=l0 at*;simp -implicitDefEqProofs [EX_loop,f19,a0,a1,a2,a3]
 ·obtain⟨i,n,rfl,hn0,hn1,hin⟩:=of2 hx;obtain⟨j,m,rfl,hm0,hm1,hjm⟩:=of2 hy;obtain⟨m0,a0⟩:=(tv).any;obtain⟨m1,a1⟩:=(tx).any;obtain⟨m2,a2⟩:=(ty).any;obtain⟨K,hK⟩:∃ K,K=m0+m1+m2:=⟨_,rfl⟩
  replace a0:=a0 K (by omega);replace a1:=a1 K (by omega);replace a2:=a2 K (by omega);rw[pl2];have hc1:∀ n,(Sv.c i n).w.d=wD false [] [] n i 0 [] []:=fun n=>rfl
  have hc2:∀ n,(Sv.c j n).w.d=wD false [] [] n j 0 [] []:=fun n=>rfl
  unfold lessC;rw[hc1]at a1;rw[hc2]at a2
  by_cases h:m<n<;>cases i<;>cases j<;>(try obtain rfl:=hin rfl)<;>(try obtain rfl:=hjm rfl)<;>(try exact absurd h (by omega))<;>simp only[h,Bool.not_true,Bool.not_false,Bool.false_and,Bool.true_and,Bool.and_true,Bool.or_true,Bool.true_or,Bool.false_or,decide_true,decide_false,if_true,if_false,Bool.false_eq_true,hc1,hc2] <;>
  (clear hK tv tx ty;refine Ca.ofS (n:=K+300) ?_;rw[CL_fn rfl (k19:E1.fn _=_) rfl];(try rw[hc1]);(try rw[hc2]);unfold wD rgD at*;generalize LK .i64 []=l0 at*;simp -implicitDefEqProofs [f19,a0,a1,a2,h])
 ·obtain⟨a,rfl,_,_,ha⟩:=of3 hx;obtain⟨b,rfl,_,_,hb⟩:=of3 hy;obtain⟨m0,a0⟩:=(tv).any;obtain⟨m1,a1⟩:=(tx).any;obtain⟨m2,a2⟩:=(ty).any;obtain⟨m3,a3⟩:=(Ca.up1 (ca_wless a b (by omega) (by omega))).any;obtain⟨K,hK⟩:∃ K,K=m0+m1+m2+m3:=⟨_,rfl⟩
  replace a0:=a0 K (by omega);replace a1:=a1 K (by omega);replace a2:=a2 K (by omega);replace a3:=a3 K (by omega);obtain⟨s1,n1,d1,e1,g1⟩:=q_d a;obtain⟨s2,n2,d2,e2,g2⟩:=q_d b;have ep:=pl3 a b
  by_cases hab:a<b
  ·rw[ep,if_pos hab];rw[decide_eq_true hab,g1,g2]at a3;simp only[e1,e2]at a1 a2 ⊢;clear hK tv tx ty;refine Ca.ofS (n:=K+300) ?_;rw[CL_fn rfl (k19:E1.fn _=_) rfl]
   (try unfold wD at*)
   unfold rgD at*;generalize LK .i64 []=l0 at*;simp -implicitDefEqProofs [EX_loop,f19,a0,a1,a2,a3]
  ·rw[ep,if_neg hab];rw[decide_eq_false hab,g1,g2]at a3;simp only[e1,e2]at a1 a2 ⊢;clear hK tv tx ty;refine Ca.ofS (n:=K+300) ?_;rw[CL_fn rfl (k19:E1.fn _=_) rfl]
   (try unfold wD at*)
   unfold rgD at*;generalize LK .i64 []=l0 at*;simp -implicitDefEqProofs [EX_loop,f19,a0,a1,a2,a3]
 ·obtain⟨u,rfl,hu⟩:=of4 hx;obtain⟨v,rfl,hv⟩:=of4 hy;obtain⟨m0,a0⟩:=(tv).any;obtain⟨m1,a1⟩:=(tx).any;obtain⟨m2,a2⟩:=(ty).any;obtain⟨K,hK⟩:∃ K,K=m0+m1+m2:=⟨_,rfl⟩
  replace a0:=a0 K (by omega);replace a1:=a1 K (by omega);replace a2:=a2 K (by omega);rw[pl4];have hc1:∀ u,(Sv.s u).w.d=wD false [] [] 0 false u [] []:=fun u=>rfl
  rw[hc1]at a1;rw[hc1]at a2;rw[hc1,hc1,hc1];clear hK tv tx ty;refine Ca.ofS (n:=K+300) ?_;rw[CL_fn rfl (k19:E1.fn _=_) rfl]
  (try unfold wD at*)
  unfold rgD at*;generalize LK .i64 []=l0 at*;simp -implicitDefEqProofs [EX_loop,f19,a0,a1,a2]
 ·obtain⟨a,rfl,ha,la⟩:=of5 hx;obtain⟨b,rfl,hb,lb⟩:=of5 hy;obtain⟨m0,a0⟩:=(tv).any;obtain⟨m1,a1⟩:=(tx).any;obtain⟨m2,a2⟩:=(ty).any;obtain⟨m3,a3⟩:=(ca_wpadd hS1 hS ha hb).any;obtain⟨K,hK⟩:∃ K,K=m0+m1+m2+m3:=⟨_,rfl⟩
  replace a0:=a0 K (by omega);replace a1:=a1 K (by omega);replace a2:=a2 K (by omega);replace a3:=a3 K (by omega);rw[pl5];simp only[wP_d]at a1 a2 ⊢;generalize addP a b=c at*;unfold polD at*;generalize (a.map fun p=>qC p.1 p.2)=x1 at*;generalize (b.map fun p=>qC p.1 p.2)=x2 at*;generalize (c.map fun p=>qC p.1 p.2)=x3 at*;clear hK tv tx ty;refine Ca.ofS (n:=K+300) ?_;rw[CL_fn rfl (k19:E1.fn _=_) rfl]
  (try unfold wD at*)
  unfold rgD at*;generalize LK .i64 []=l0 at*;simp -implicitDefEqProofs [EX_loop,f19,a0,a1,a2,a3]
theorem mk_wplus {kk:Int}{ps:List Int}{S M:Nat}{xs ys:List Sv}(hv:validRg kk ps=true)(hS1:1<=S)(hS:S<=1000)(hx:Ofs S M (ksO kk ps) xs)(hy:Ofs S M (ksO kk ps) ys) :
  Ca E1 19 [.d (rgD kk ps),.d (mkW kk xs).d,.d (mkW kk ys).d] (.d (mkW kk (plusL (ksO kk ps) xs ys)).d,none):=by
 have tv:=Ca.up1 (Ca.ofS (run_wrvalid 0 kk ps));rw[hv]at tv;have tx:=mk_take hv hS1 hS hx;have ty:=mk_take hv hS1 hS hy;rcases mk_cases hv hx with ⟨hk,rfl,x,rfl,h1⟩|⟨rfl,a,b,x1,x2,rfl,rfl,ha,hb,h1,h2⟩|⟨rfl,a,b,c,x1,x2,x3,rfl,rfl,ha,hb,hc,h1,h2,h3⟩
 ·have h6:=(single_valid hk).2;rcases mk_cases hv hy with ⟨_,_,y,rfl,g1⟩|⟨h,_⟩|⟨h,_⟩
  ·unfold ksO;rw[if_neg h6];rw[mk_one hk,mk_one hk];show Ca E1 19 _ (.d (mkW kk [plusK kk x y]).d,none);rw[mk_one hk];exact wplus_S hk hS1 hS h1 g1
  ·exact absurd h h6
  ·exact absurd h h6
 ·obtain⟨y1,y2,rfl,g1,g2⟩:∃ y1 y2,ys=[y1,y2]/\y1.of a S M/\y2.of b S M:=by
   have hl:=hy.1
   match ys,hl with
   | [y1,y2],_=>exact⟨y1,y2,rfl,hy.2 0 _ _ rfl rfl,hy.2 1 _ _ rfl rfl⟩
  obtain⟨m0,a0⟩:=(tv).any;obtain⟨m1,a1⟩:=(tx).any;obtain⟨m2,a2⟩:=(ty).any;obtain⟨m3,b0⟩:=(wplus_S ha hS1 hS h1 g1).any;obtain⟨m4,b1⟩:=(wplus_S hb hS1 hS h2 g2).any;obtain⟨m5,p0⟩:=(ca_part 6 [a,b] 0 0 rfl a rfl).any;obtain⟨m6,p1⟩:=(ca_part 6 [a,b] 1 1 rfl b rfl).any;obtain⟨K,hK⟩:∃ K,K=m0+m1+m2+m3+m4+m5+m6:=⟨_,rfl⟩
  replace a0:=a0 K (by omega);replace a1:=a1 K (by omega);replace a2:=a2 K (by omega);replace b0:=b0 K (by omega);replace b1:=b1 K (by omega);replace p0:=p0 K (by omega);replace p1:=p1 K (by omega);have e0:∀ l,mkW 6 l=wProd (l.map Sv.w):=fun _=>rfl
  have e1:plusL (ksO 6 [a,b]) [x1,x2] [y1,y2]=[plusK a x1 y1,plusK b x2 y2]:=rfl;rw[e1,e0,e0,e0,prod_d,prod_d,prod_d];rw[e0,prod_d]at a1 a2;simp only[List.map_cons,List.map_nil]at*;generalize plusK a x1 y1=z1,plusK b x2 y2=z2 at*;obtain⟨xs1,xm1,xn1,xc1,xb1,xu1,xp1,xq1,ex1⟩:=x1.w.wD_of;obtain⟨xs2,xm2,xn2,xc2,xb2,xu2,xp2,xq2,ex2⟩:=x2.w.wD_of;obtain⟨ys1,ym1,yn1,yc1,yb1,yu1,yp1,yq1,ey1⟩:=y1.w.wD_of;obtain⟨ys2,ym2,yn2,yc2,yb2,yu2,yp2,yq2,ey2⟩:=y2.w.wD_of;obtain⟨zs1,zm1,zn1,zc1,zb1,zu1,zp1,zq1,ez1⟩:=z1.w.wD_of;obtain⟨zs2,zm2,zn2,zc2,zb2,zu2,zp2,zq2,ez2⟩:=z2.w.wD_of;simp only[ex1,ex2,ey1,ey2,ez1,ez2]at*;clear hK tv tx ty e0 e1 hx hy hv h1 g1 h2 g2 ex1 ex2 ey1 ey2 ez1 ez2;refine Ca.ofS (n:=K+500) ?_;rw[CL_fn rfl (k19:E1.fn _=_) rfl];unfold wD rgD at*;generalize LK .i64 []=l0 at*;simp only[show LK .i64 [a,b]=[.v (.int .i64 a),.v (.int .i64 b)] from rfl]at*;simp (maxSteps:=500000) -implicitDefEqProofs [EX_loop,f19,a0,a1,a2,b0,b1,p0,p1,most,wr1,wr2,wr3,AObj.view]
 ·obtain⟨y1,y2,y3,rfl,g1,g2,g3⟩:∃ y1 y2 y3,ys=[y1,y2,y3]/\y1.of a S M/\y2.of b S M/\y3.of c S M:=by
   have hl:=hy.1
   match ys,hl with
   | [y1,y2,y3],_=>exact⟨y1,y2,y3,rfl,hy.2 0 _ _ rfl rfl,hy.2 1 _ _ rfl rfl,hy.2 2 _ _ rfl rfl⟩
  obtain⟨m0,a0⟩:=(tv).any;obtain⟨m1,a1⟩:=(tx).any;obtain⟨m2,a2⟩:=(ty).any;obtain⟨m3,b0⟩:=(wplus_S ha hS1 hS h1 g1).any;obtain⟨m4,b1⟩:=(wplus_S hb hS1 hS h2 g2).any;obtain⟨m5,b2⟩:=(wplus_S hc hS1 hS h3 g3).any;obtain⟨m6,p0⟩:=(ca_part 6 [a,b,c] 0 0 rfl a rfl).any;obtain⟨m7,p1⟩:=(ca_part 6 [a,b,c] 1 1 rfl b rfl).any;obtain⟨m8,p2⟩:=(ca_part 6 [a,b,c] 2 2 rfl c rfl).any;obtain⟨K,hK⟩:∃ K,K=m0+m1+m2+m3+m4+m5+m6+m7+m8:=⟨_,rfl⟩
  replace a0:=a0 K (by omega);replace a1:=a1 K (by omega);replace a2:=a2 K (by omega);replace b0:=b0 K (by omega);replace b1:=b1 K (by omega);replace b2:=b2 K (by omega);replace p0:=p0 K (by omega);replace p1:=p1 K (by omega);replace p2:=p2 K (by omega);have e0:∀ l,mkW 6 l=wProd (l.map Sv.w):=fun _=>rfl
  have e1:plusL (ksO 6 [a,b,c]) [x1,x2,x3] [y1,y2,y3]=[plusK a x1 y1,plusK b x2 y2,plusK c x3 y3]:=rfl;rw[e1,e0,e0,e0,prod_d,prod_d,prod_d];rw[e0,prod_d]at a1 a2;simp only[List.map_cons,List.map_nil]at*;generalize plusK a x1 y1=z1,plusK b x2 y2=z2,plusK c x3 y3=z3 at*;obtain⟨xs1,xm1,xn1,xc1,xb1,xu1,xp1,xq1,ex1⟩:=x1.w.wD_of;obtain⟨xs2,xm2,xn2,xc2,xb2,xu2,xp2,xq2,ex2⟩:=x2.w.wD_of;obtain⟨xs3,xm3,xn3,xc3,xb3,xu3,xp3,xq3,ex3⟩:=x3.w.wD_of;obtain⟨ys1,ym1,yn1,yc1,yb1,yu1,yp1,yq1,ey1⟩:=y1.w.wD_of;obtain⟨ys2,ym2,yn2,yc2,yb2,yu2,yp2,yq2,ey2⟩:=y2.w.wD_of;obtain⟨ys3,ym3,yn3,yc3,yb3,yu3,yp3,yq3,ey3⟩:=y3.w.wD_of;obtain⟨zs1,zm1,zn1,zc1,zb1,zu1,zp1,zq1,ez1⟩:=z1.w.wD_of;obtain⟨zs2,zm2,zn2,zc2,zb2,zu2,zp2,zq2,ez2⟩:=z2.w.wD_of;obtain⟨zs3,zm3,zn3,zc3,zb3,zu3,zp3,zq3,ez3⟩:=z3.w.wD_of;simp only[ex1,ex2,ex3,ey1,ey2,ey3,ez1,ez2,ez3]at*;clear hK tv tx ty e0 e1 hx hy hv h1 g1 h2 g2 h3 g3 ex1 ex2 ex3 ey1 ey2 ey3 ez1 ez2 ez3;refine Ca.ofS (n:=K+500) ?_;rw[CL_fn rfl (k19:E1.fn _=_) rfl];unfold wD rgD at*;generalize LK .i64 []=l0 at*;simp only[show LK .i64 [a,b,c]=[.v (.int .i64 a),.v (.int .i64 b),.v (.int .i64 c)] from rfl]at*;simp (maxSteps:=500000) -implicitDefEqProofs [EX_loop,f19,a0,a1,a2,b0,b1,b2,p0,p1,p2,most,wr1,wr2,wr3,AObj.view]
theorem wtimes_S {k:Int}(hk:single k=true){S M N:Nat}(hS1:1<=S)(hS:S<=1000)(hm:(M*N+N)*(2*S+1)<=40000){x y:Sv}(hx:x.of k S M)(hy:y.of k S N) :
  Ca E1 21 [.d (rgD k []),.d x.w.d,.d y.w.d] (.d (timesK x y).w.d,none):=by
 have tv:=Ca.up1 (Ca.ofS (run_wrvalid 0 k []));rw[(single_valid hk).1]at tv;have tx:=take_S hk hS1 hS hx;have ty:=take_S hk hS1 hS hy;rcases single_five hk with rfl|rfl|rfl|rfl|rfl
 ·obtain⟨a,rfl,ha⟩:=of1 hx;obtain⟨b,rfl,hb⟩:=of1 hy;obtain⟨m0,a0⟩:=(tv).any;obtain⟨m1,a1⟩:=(tx).any;obtain⟨m2,a2⟩:=(ty).any;obtain⟨m3,a3⟩:=(Ca.up1 (ca_wmul a b (by omega) (by omega))).any;obtain⟨K,hK⟩:∃ K,K=m0+m1+m2+m3:=⟨_,rfl⟩
  replace a0:=a0 K (by omega);replace a1:=a1 K (by omega);replace a2:=a2 K (by omega);replace a3:=a3 K (by omega);obtain⟨s1,n1,d1,e1,g1⟩:=q_d a;obtain⟨s2,n2,d2,e2,g2⟩:=q_d b;rw[ti1];obtain⟨s3,n3,d3,e3,g3⟩:=q_d (a*b);rw[g1,g2,g3]at a3;rw[e1]at a1 ⊢;rw[e2]at a2 ⊢;rw[e3];clear hK tv tx ty;refine Ca.ofS (n:=K+300) ?_;rw[CL_fn rfl (k21:E1.fn _=_) rfl]
  (try unfold wD at*)
  unfold rgD at*;generalize LK .i64 []=l0 at*;simp -implicitDefEqProofs [EX_loop,f21,a0,a1,a2,a3]
 ·obtain⟨i,n,rfl,hn0,hn1,hin⟩:=of2 hx;obtain⟨j,m,rfl,hm0,hm1,hjm⟩:=of2 hy;obtain⟨m0,a0⟩:=(tv).any;obtain⟨m1,a1⟩:=(tx).any;obtain⟨m2,a2⟩:=(ty).any;obtain⟨K,hK⟩:∃ K,K=m0+m1+m2:=⟨_,rfl⟩
  replace a0:=a0 K (by omega);replace a1:=a1 K (by omega);replace a2:=a2 K (by omega);rw[ti2];have w1:wrapS .i64 (n+m)=n+m:=wrap_i64 (by omega);have hc1:∀ i n,(Sv.c i n).w.d=wD false [] [] n i 0 [] []:=fun i n=>rfl
  rw[hc1]at a1;rw[hc1]at a2;cases i<;>cases j<;>by_cases h:1099511627776<n+m<;>simp only[h,Bool.true_or,Bool.false_or,Bool.or_true,decide_true,decide_false,if_true,if_false,Bool.false_eq_true,Bool.or_false,hc1] <;>
  (clear hK tv tx ty;refine Ca.ofS (n:=K+300) ?_;rw[CL_fn rfl (k21:E1.fn _=_) rfl];unfold wD rgD at*;generalize LK .i64 []=l0 at*;simp -implicitDefEqProofs [f21,a0,a1,a2,h,w1])
 ·obtain⟨a,rfl,_,_,ha⟩:=of3 hx;obtain⟨b,rfl,_,_,hb⟩:=of3 hy;obtain⟨m0,a0⟩:=(tv).any;obtain⟨m1,a1⟩:=(tx).any;obtain⟨m2,a2⟩:=(ty).any;obtain⟨m3,a3⟩:=(Ca.up1 (ca_wmul a b (by omega) (by omega))).any;obtain⟨K,hK⟩:∃ K,K=m0+m1+m2+m3:=⟨_,rfl⟩
  replace a0:=a0 K (by omega);replace a1:=a1 K (by omega);replace a2:=a2 K (by omega);replace a3:=a3 K (by omega);obtain⟨s1,n1,d1,e1,g1⟩:=q_d a;obtain⟨s2,n2,d2,e2,g2⟩:=q_d b;rw[ti1];obtain⟨s3,n3,d3,e3,g3⟩:=q_d (a*b);rw[g1,g2,g3]at a3;rw[e1]at a1 ⊢;rw[e2]at a2 ⊢;rw[e3];clear hK tv tx ty;refine Ca.ofS (n:=K+300) ?_;rw[CL_fn rfl (k21:E1.fn _=_) rfl]
  (try unfold wD at*)
  unfold rgD at*;generalize LK .i64 []=l0 at*;simp -implicitDefEqProofs [EX_loop,f21,a0,a1,a2,a3]
 ·obtain⟨u,rfl,hu⟩:=of4 hx;obtain⟨v,rfl,hv⟩:=of4 hy;obtain⟨m0,a0⟩:=(tv).any;obtain⟨m1,a1⟩:=(tx).any;obtain⟨m2,a2⟩:=(ty).any;obtain⟨K,hK⟩:∃ K,K=m0+m1+m2:=⟨_,rfl⟩
  replace a0:=a0 K (by omega);replace a1:=a1 K (by omega);replace a2:=a2 K (by omega);rw[ti4];have hc1:∀ u,(Sv.s u).w.d=wD false [] [] 0 false u [] []:=fun u=>rfl
  rw[hc1]at a1;rw[hc1]at a2;rw[hc1,hc1,hc1];clear hK tv tx ty;refine Ca.ofS (n:=K+300) ?_;rw[CL_fn rfl (k21:E1.fn _=_) rfl]
  (try unfold wD at*)
  unfold rgD at*;generalize LK .i64 []=l0 at*;simp -implicitDefEqProofs [EX_loop,f21,a0,a1,a2]
 ·obtain⟨a,rfl,ha,la⟩:=of5 hx;obtain⟨b,rfl,hb,lb⟩:=of5 hy;obtain⟨m0,a0⟩:=(tv).any;obtain⟨m1,a1⟩:=(tx).any;obtain⟨m2,a2⟩:=(ty).any;obtain⟨m3,a3⟩:=(ca_wpmul hS1 hS ha hb (Nat.le_trans (Nat.mul_le_mul_right _ (Nat.add_le_add (Nat.mul_le_mul la lb) lb)) hm)).any;obtain⟨K,hK⟩:∃ K,K=m0+m1+m2+m3:=⟨_,rfl⟩
  replace a0:=a0 K (by omega);replace a1:=a1 K (by omega);replace a2:=a2 K (by omega);replace a3:=a3 K (by omega);rw[ti5];simp only[wP_d]at a1 a2 ⊢;generalize mulP a b=c at*;unfold polD at*;generalize (a.map fun p=>qC p.1 p.2)=x1 at*;generalize (b.map fun p=>qC p.1 p.2)=x2 at*;generalize (c.map fun p=>qC p.1 p.2)=x3 at*;clear hK tv tx ty;refine Ca.ofS (n:=K+300) ?_;rw[CL_fn rfl (k21:E1.fn _=_) rfl]
  (try unfold wD at*)
  unfold rgD at*;generalize LK .i64 []=l0 at*;simp -implicitDefEqProofs [EX_loop,f21,a0,a1,a2,a3]
theorem mk_wtimes {kk:Int}{ps:List Int}{S M N:Nat}{xs ys:List Sv}(hv:validRg kk ps=true)(hS1:1<=S)(hS:S<=1000)(hm:(M*N+N)*(2*S+1)<=40000)(hx:Ofs S M (ksO kk ps) xs)(hy:Ofs S N (ksO kk ps) ys) :
  Ca E1 21 [.d (rgD kk ps),.d (mkW kk xs).d,.d (mkW kk ys).d] (.d (mkW kk (timesL xs ys)).d,none):=by
 have tv:=Ca.up1 (Ca.ofS (run_wrvalid 0 kk ps));rw[hv]at tv;have tx:=mk_take hv hS1 hS hx;have ty:=mk_take hv hS1 hS hy;rcases mk_cases hv hx with ⟨hk,rfl,x,rfl,h1⟩|⟨rfl,a,b,x1,x2,rfl,rfl,ha,hb,h1,h2⟩|⟨rfl,a,b,c,x1,x2,x3,rfl,rfl,ha,hb,hc,h1,h2,h3⟩
 ·have h6:=(single_valid hk).2;rcases mk_cases hv hy with ⟨_,_,y,rfl,g1⟩|⟨h,_⟩|⟨h,_⟩
  ·rw[mk_one hk,mk_one hk];show Ca E1 21 _ (.d (mkW kk [timesK x y]).d,none);rw[mk_one hk];exact wtimes_S hk hS1 hS hm h1 g1
  ·exact absurd h h6
  ·exact absurd h h6
 ·obtain⟨y1,y2,rfl,g1,g2⟩:∃ y1 y2,ys=[y1,y2]/\y1.of a S N/\y2.of b S N:=by
   have hl:=hy.1
   match ys,hl with
   | [y1,y2],_=>exact⟨y1,y2,rfl,hy.2 0 _ _ rfl rfl,hy.2 1 _ _ rfl rfl⟩
  obtain⟨m0,a0⟩:=(tv).any;obtain⟨m1,a1⟩:=(tx).any;obtain⟨m2,a2⟩:=(ty).any;obtain⟨m3,b0⟩:=(wtimes_S ha hS1 hS hm h1 g1).any;obtain⟨m4,b1⟩:=(wtimes_S hb hS1 hS hm h2 g2).any;obtain⟨m5,p0⟩:=(ca_part 6 [a,b] 0 0 rfl a rfl).any;obtain⟨m6,p1⟩:=(ca_part 6 [a,b] 1 1 rfl b rfl).any;obtain⟨K,hK⟩:∃ K,K=m0+m1+m2+m3+m4+m5+m6:=⟨_,rfl⟩
  replace a0:=a0 K (by omega);replace a1:=a1 K (by omega);replace a2:=a2 K (by omega);replace b0:=b0 K (by omega);replace b1:=b1 K (by omega);replace p0:=p0 K (by omega);replace p1:=p1 K (by omega);have e0:∀ l,mkW 6 l=wProd (l.map Sv.w):=fun _=>rfl
  have e1:timesL [x1,x2] [y1,y2]=[timesK x1 y1,timesK x2 y2]:=rfl;rw[e1,e0,e0,e0,prod_d,prod_d,prod_d];rw[e0,prod_d]at a1 a2;simp only[List.map_cons,List.map_nil]at*;generalize timesK x1 y1=z1,timesK x2 y2=z2 at*;obtain⟨xs1,xm1,xn1,xc1,xb1,xu1,xp1,xq1,ex1⟩:=x1.w.wD_of;obtain⟨xs2,xm2,xn2,xc2,xb2,xu2,xp2,xq2,ex2⟩:=x2.w.wD_of;obtain⟨ys1,ym1,yn1,yc1,yb1,yu1,yp1,yq1,ey1⟩:=y1.w.wD_of;obtain⟨ys2,ym2,yn2,yc2,yb2,yu2,yp2,yq2,ey2⟩:=y2.w.wD_of;obtain⟨zs1,zm1,zn1,zc1,zb1,zu1,zp1,zq1,ez1⟩:=z1.w.wD_of;obtain⟨zs2,zm2,zn2,zc2,zb2,zu2,zp2,zq2,ez2⟩:=z2.w.wD_of;simp only[ex1,ex2,ey1,ey2,ez1,ez2]at*;clear hK tv tx ty e0 e1 hx hy hv h1 g1 h2 g2 ex1 ex2 ey1 ey2 ez1 ez2;refine Ca.ofS (n:=K+500) ?_;rw[CL_fn rfl (k21:E1.fn _=_) rfl];unfold wD rgD at*;generalize LK .i64 []=l0 at*;simp only[show LK .i64 [a,b]=[.v (.int .i64 a),.v (.int .i64 b)] from rfl]at*;simp (maxSteps:=500000) -implicitDefEqProofs [EX_loop,f21,a0,a1,a2,b0,b1,p0,p1,most,wr1,wr2,wr3,AObj.view]
 ·obtain⟨y1,y2,y3,rfl,g1,g2,g3⟩:∃ y1 y2 y3,ys=[y1,y2,y3]/\y1.of a S N/\y2.of b S N/\y3.of c S N:=by
   have hl:=hy.1
   match ys,hl with
   | [y1,y2,y3],_=>exact⟨y1,y2,y3,rfl,hy.2 0 _ _ rfl rfl,hy.2 1 _ _ rfl rfl,hy.2 2 _ _ rfl rfl⟩
  obtain⟨m0,a0⟩:=(tv).any;obtain⟨m1,a1⟩:=(tx).any;obtain⟨m2,a2⟩:=(ty).any;obtain⟨m3,b0⟩:=(wtimes_S ha hS1 hS hm h1 g1).any;obtain⟨m4,b1⟩:=(wtimes_S hb hS1 hS hm h2 g2).any;obtain⟨m5,b2⟩:=(wtimes_S hc hS1 hS hm h3 g3).any;obtain⟨m6,p0⟩:=(ca_part 6 [a,b,c] 0 0 rfl a rfl).any;obtain⟨m7,p1⟩:=(ca_part 6 [a,b,c] 1 1 rfl b rfl).any;obtain⟨m8,p2⟩:=(ca_part 6 [a,b,c] 2 2 rfl c rfl).any;obtain⟨K,hK⟩:∃ K,K=m0+m1+m2+m3+m4+m5+m6+m7+m8:=⟨_,rfl⟩
  replace a0:=a0 K (by omega);replace a1:=a1 K (by omega);replace a2:=a2 K (by omega);replace b0:=b0 K (by omega);replace b1:=b1 K (by omega);replace b2:=b2 K (by omega);replace p0:=p0 K (by omega);replace p1:=p1 K (by omega);replace p2:=p2 K (by omega);have e0:∀ l,mkW 6 l=wProd (l.map Sv.w):=fun _=>rfl
  have e1:timesL [x1,x2,x3] [y1,y2,y3]=[timesK x1 y1,timesK x2 y2,timesK x3 y3]:=rfl;rw[e1,e0,e0,e0,prod_d,prod_d,prod_d];rw[e0,prod_d]at a1 a2;simp only[List.map_cons,List.map_nil]at*;generalize timesK x1 y1=z1,timesK x2 y2=z2,timesK x3 y3=z3 at*;obtain⟨xs1,xm1,xn1,xc1,xb1,xu1,xp1,xq1,ex1⟩:=x1.w.wD_of;obtain⟨xs2,xm2,xn2,xc2,xb2,xu2,xp2,xq2,ex2⟩:=x2.w.wD_of;obtain⟨xs3,xm3,xn3,xc3,xb3,xu3,xp3,xq3,ex3⟩:=x3.w.wD_of;obtain⟨ys1,ym1,yn1,yc1,yb1,yu1,yp1,yq1,ey1⟩:=y1.w.wD_of;obtain⟨ys2,ym2,yn2,yc2,yb2,yu2,yp2,yq2,ey2⟩:=y2.w.wD_of;obtain⟨ys3,ym3,yn3,yc3,yb3,yu3,yp3,yq3,ey3⟩:=y3.w.wD_of;obtain⟨zs1,zm1,zn1,zc1,zb1,zu1,zp1,zq1,ez1⟩:=z1.w.wD_of;obtain⟨zs2,zm2,zn2,zc2,zb2,zu2,zp2,zq2,ez2⟩:=z2.w.wD_of;obtain⟨zs3,zm3,zn3,zc3,zb3,zu3,zp3,zq3,ez3⟩:=z3.w.wD_of;simp only[ex1,ex2,ex3,ey1,ey2,ey3,ez1,ez2,ez3]at*;clear hK tv tx ty e0 e1 hx hy hv h1 g1 h2 g2 h3 g3 ex1 ex2 ex3 ey1 ey2 ey3 ez1 ez2 ez3;refine Ca.ofS (n:=K+500) ?_;rw[CL_fn rfl (k21:E1.fn _=_) rfl];unfold wD rgD at*;generalize LK .i64 []=l0 at*;simp only[show LK .i64 [a,b,c]=[.v (.int .i64 a),.v (.int .i64 b),.v (.int .i64 c)] from rfl]at*;simp (maxSteps:=500000) -implicitDefEqProofs [EX_loop,f21,a0,a1,a2,b0,b1,b2,p0,p1,p2,most,wr1,wr2,wr3,AObj.view]
end Fi.S
