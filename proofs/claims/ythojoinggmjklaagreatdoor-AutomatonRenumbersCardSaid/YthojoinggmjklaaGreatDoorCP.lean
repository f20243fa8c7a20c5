import Derived.Test.YthojoinggmjklaaGreatDoorCO
set_option linter.unusedVariables false
set_option linter.unusedSimpArgs false
noncomputable section
namespace Fi.S
open Go Fi
set_option maxHeartbeats 1000000
theorem Q0 {S:Nat}(hS:1<=S){a:List bN}(ha:PV S a):jB a []=a :=
 PV.ext (z_ hS hS ha (PV.nil S)) ha (fun e=>by rw[Gd];simp only[tot];grind)
def cv (a:List bN)(f:jA->Rat)(e:jA):Rat:=match a with
 | []=>0
 | p::r=>p.2*f (e.1-p.1.1,e.2.1-p.1.2.1,e.2.2-p.1.2.2)+cv r f e
theorem Ag (x:BitVec 64):IntKind.wrap .u64 (x.toNat:Int)=(x.toNat:Int):=by
 have h:=x.isLt;rw[<-bV];exact wrap_u64 (by omega)
theorem Jl (u v:Int):Fe .u64 u v=((BitVec.ofInt 64 u ||| BitVec.ofInt 64 v).toNat:Int):=by
 rw[vU];exact Ag _
theorem Vf (u v:Int):DW .u64 u v=((BitVec.ofInt 64 u &&& BitVec.ofInt 64 v).toNat:Int):=by
 rw[DX];exact Ag _
theorem Q3 (x:BitVec 64):BitVec.ofInt 64 (x.toNat:Int)=x:=by simp
theorem abR {u:Int}(h:zL u):((BitVec.ofInt 64 u).toNat:Int)=u:=by
 unfold zL at h;rw[BitVec.toNat_ofInt];omega
theorem or_comm (u v:Int):Fe .u64 u v=Fe .u64 v u:=by rw[Jl,Jl,BitVec.or_comm]
theorem and_assoc (u v w:Int):DW .u64 (DW .u64 u v) w=DW .u64 u (DW .u64 v w):=by
 simp only[Vf,Q3,BitVec.and_assoc]
theorem or_zero {u:Int}(h:zL u):Fe .u64 u 0=u:=by
 rw[Jl];have h0:BitVec.ofInt 64 0=0#64:=rfl;rw[h0,BitVec.or_zero,abR h]
section
theorem of1 {S M:Nat}{x:Sv}(h:x.of 1 S M):∃ q,x=.q q/\qz q<=S:=by
 cases x with
 | q x=>exact⟨x,rfl,h.2⟩
 | c i n=>exact absurd h.1 (by decide)
 | s u=>exact absurd h.1 (by decide)
 | p a=>exact absurd h.1 (by decide)
theorem of2 {S M:Nat}{x:Sv}(h:x.of 2 S M):∃ i n,x=.c i n/\0<=n/\n<=1099511627776/\(i=true->n=0):=by
 cases x with
 | c i n=>exact⟨i,n,rfl,h.2⟩
 | q x=>rcases h.1 with h | h;exact absurd h (by decide);exact absurd h.1 (by decide)
 | s u=>exact absurd h.1 (by decide)
 | p a=>exact absurd h.1 (by decide)
theorem of3 {S M:Nat}{x:Sv}(h:x.of 3 S M):∃ q,x=.q q/\0<=q/\q<=1/\qz q<=S:=by
 cases x with
 | q x =>
  rcases h.1 with h1|h1
  ·exact absurd h1 (by decide)
  ·exact⟨x,rfl,h1.2.1,h1.2.2,h.2⟩
 | c i n=>exact absurd h.1 (by decide)
 | s u=>exact absurd h.1 (by decide)
 | p a=>exact absurd h.1 (by decide)
theorem of4 {S M:Nat}{x:Sv}(h:x.of 4 S M):∃ u,x=.s u/\zL u:=by
 cases x with
 | s u=>exact⟨u,rfl,h.2⟩
 | q x=>rcases h.1 with h | h;exact absurd h (by decide);exact absurd h.1 (by decide)
 | c i n=>exact absurd h.1 (by decide)
 | p a=>exact absurd h.1 (by decide)
theorem of5 {S M:Nat}{x:Sv}(h:x.of 5 S M):∃ a,x=.p a/\PV S a/\a.length<=M:=by
 cases x with
 | p a=>exact⟨a,rfl,h.2⟩
 | q x=>rcases h.1 with h | h;exact absurd h (by decide);exact absurd h.1 (by decide)
 | c i n=>exact absurd h.1 (by decide)
 | s u=>exact absurd h.1 (by decide)
theorem pl1 (x y:Rat):dS 1 (.q x) (.q y)=.q (x+y):=rfl
theorem pl3 (x y:Rat):dS 3 (.q x) (.q y)=.q (if x<y then y else x):=by
 show(if x<y then Sv.q y else .q x)=_;split<;>rfl
theorem pl2 (i j:Bool)(n m:Int):dS 2 (.c i n) (.c j m)=if uJ j m i n then .c j m else .c i n:=rfl
theorem pl4 (u v:Int):dS 4 (.s u) (.s v)=.s (Fe .u64 u v):=rfl
theorem pl5 (a b:List bN):dS 5 (.p a) (.p b)=.p (jB a b):=rfl
section laws
variable {k:Int} {S M:Nat} {x y z:Sv}
theorem MH (hk:single k=true)(hS:1<=S)(hx:x.of k S M):dS k x (gD k)=x:=by
 rcases bL hk with rfl|rfl|rfl|rfl|rfl
 ·obtain⟨a,rfl,_⟩:=of1 hx;show Sv.q (a+0)=_;rw[Rat.add_zero]
 ·obtain⟨i,n,rfl,h1,h2,h3⟩:=of2 hx;show(if uJ true 0 i n then Sv.c true 0 else .c i n)=_;rfl
 ·obtain⟨a,rfl,a0,_⟩:=of3 hx;show dS 3 (.q a) (.q 0)=_;rw[pl3,if_neg (by grind)]
 ·obtain⟨u,rfl,hu⟩:=of4 hx;show Sv.s (Fe .u64 u 0)=_;rw[or_zero hu]
 ·obtain⟨a,rfl,ha,_⟩:=of5 hx;show Sv.p (jB a [])=_;rw[Q0 hS ha]
end laws
end
set_option maxHeartbeats 8000000
section
def lW (kk:Int)(ps:List Int):List Int:=if kk=6 then ps else [kk]
def h_ (kk:Int)(xs:List Sv):W:=if kk=6 then gu (xs.map Sv.w) else(xs.headD (.q 0)).w
theorem jC {kk:Int}{ps:List Int}(h:aQ kk ps=true):∀ k ∈ lW kk ps,single k=true:=by
 unfold lW;split
 ·rename_i h6;subst h6;exact(YG h).2.2
 ·rename_i h6;unfold aQ at h;rw[if_pos h6]at h;simp only[Bool.and_eq_true]at h;intro k hk;rw[List.mem_singleton]at hk;subst hk;exact h.1
theorem oU.mono {S T M M':Nat}{ks:List Int}{xs:List Sv}(h:oU S M ks xs)(hST:S<=T)(hM:M<=M'):oU T M' ks xs:=⟨h.1,fun i k x hk hx=>(h.2 i k x hk hx).mono hST hM⟩
theorem Vg {ks:List Int}{l m:List Sv}(hl:l.length=ks.length)(hm:m.length=ks.length)(h:∀ (i:Nat) (k:Int) (x y:Sv),ks[i]?=some k->l[i]?=some x->m[i]?=some y->x=y):l=m:=by
 refine List.ext_getElem (by omega) (fun i h1 h2 => ?_);exact h i (ks[i]'(by omega)) _ _ (List.getElem?_eq_getElem (by omega)) (List.getElem?_eq_getElem h1) (List.getElem?_eq_getElem h2)
theorem yK {α:Type}{l:List α}{i:Nat}{x y:α}(h1:l[i]?=some x)(h2:l[i]?=some y):x=y:=by
 rw[h1]at h2;exact Option.some.inj h2
section laws
variable {S M:Nat} {ks:List Int} {xs ys zs:List Sv}
theorem MI (hx:xs.length=ks.length)(hy:ys.length=ks.length):(kE ks xs ys).length=ks.length:=by simp[kE,hx,hy]
theorem Ah {f:Int->Sv}{i:Nat}{k:Int}{z:Sv}(hk:ks[i]?=some k)(h:(ks.map f)[i]?=some z):z=f k:=by
 rw[List.getElem?_map,hk]at h;exact(Option.some.inj h).symm
theorem Jm (hS:1<=S)(hs:∀ k ∈ ks,single k=true)(hx:oU S M ks xs):kE ks xs (ks.map gD)=xs:=by
 refine Vg (MI hx.1 (by simp)) hx.1 (fun i k u v hk hu hv => ?_);obtain⟨k1,x,y,a1,a2,a3,rfl⟩:=Af hu;obtain rfl:=yK hk a1;obtain rfl:=yK a2 hv;rw[Ah hk a3];exact MH (hs k (List.mem_of_getElem? hk)) hS (hx.2 i k _ hk a2)
theorem wF (hS:1<=S)(hs:∀ k ∈ ks,single k=true):oU S M ks (ks.map gD):=⟨by simp,fun i k x hk hx=>by rw[Ah hk hx];exact QS (hs k (List.mem_of_getElem? hk)) S M hS⟩
end laws
section ring
variable {kk:Int} {ps:List Int} {S M:Nat} {xs ys:List Sv}
theorem pW {k:Int}(h:oU S M [k] xs):∃ x,xs=[x]/\x.of k S M:=by
 match xs,h with
 | [x],h=>exact⟨x,rfl,h.2 0 k x rfl rfl⟩
 | [],h=>simp[oU]at h
 | _::_::_,h=>simp[oU]at h
theorem qZ (h:aQ kk ps=true)(h6:kk≠6):ps=[]/\single kk=true:=by
 unfold aQ at h;rw[if_pos h6]at h;simp only[Bool.and_eq_true,decide_eq_true_eq]at h;exact⟨h.2,h.1⟩
theorem Gp (hv:aQ kk ps=true)(hS:S<=1000)(h:oU S M (lW kk ps) xs):(h_ kk xs).OK:=by
 unfold h_
 by_cases h6:kk=6
 ·subst h6;rw[if_pos rfl];unfold lW at h;rw[if_pos rfl]at h;exact KG hS (YG hv).1 h
 ·rw[if_neg h6];unfold lW at h;rw[if_neg h6]at h;obtain⟨x,rfl,hx⟩:=pW h;exact QW hx hS
theorem Ai (hv:aQ kk ps=true)(h:oU S M (lW kk ps) xs):bM kk ps (h_ kk xs)=true:=by
 unfold h_
 by_cases h6:kk=6
 ·subst h6;rw[if_pos rfl];unfold lW at h;rw[if_pos rfl]at h;exact Ae hv h
 ·rw[if_neg h6];unfold lW at h;rw[if_neg h6]at h;obtain⟨x,rfl,hx⟩:=pW h;unfold bM;rw[hv,if_pos h6];exact QV hx
theorem Q4 (hv:aQ kk ps=true):ps.length<=1000000:=by
 by_cases h6:kk=6
 ·subst h6;have:=(YG hv).1;omega
 ·rw[(qZ hv h6).1];simp
theorem Gq (hv:aQ kk ps=true)(hS:S<=1000)(h:oU S M (lW kk ps) xs):Ca E1 41 [.d (bG kk ps),.d (h_ kk xs).d] (.d (h_ kk xs).d,none) :=
 Ef (Q4 hv) (Gp hv hS h) (Ai hv h)
theorem KH (hv:aQ kk ps=true)(hS:S<=1000)(hM:(M+M)*(S+1)<=50000)(hx:oU S M (lW kk ps) xs)(hy:oU S M (lW kk ps) ys) :
  Ca E1 14 [.d (bG kk ps),.d (h_ kk xs).d,.d (h_ kk ys).d] (.d (h_ kk (kE (lW kk ps) xs ys)).d,none):=by
 have vx:=Gq hv hS hx;have vy:=Gq hv hS hy;unfold h_ lW at*
 by_cases h6:kk=6
 ·subst h6;simp only[if_true]at*;exact Jk hS hM hv _ _ hx hy vx vy
 ·simp only[if_neg h6]at*;obtain⟨rfl,hs⟩:=qZ hv h6;obtain⟨x,rfl,hx'⟩:=pW hx;obtain⟨y,rfl,hy'⟩:=pW hy;exact QQ hs _ _ _ _ _ vx vy (Gm hs hS hM hx' hy')
end ring
end
end Fi.S
noncomputable section
namespace Fi.S
open Go Fi
set_option maxHeartbeats 8000000
set_option maxRecDepth 10000
theorem Cy {kk:Int}{ps:List Int}(h:aQ kk ps=true):Ca E1 26 [.d (bG kk ps)] (.d (h_ kk ((lW kk ps).map gD)).d,none):=by
 have h1:=QZ h;have e:Gn kk ps=h_ kk ((lW kk ps).map gD):=by
  unfold Gn h_ lW
  by_cases h6:kk=6
  ·simp only[if_pos h6,List.map_map];rfl
  ·simp only[if_neg h6];rfl
 rw[e]at h1;exact h1
end Fi.S
namespace Fi.S
open Go Fi
set_option maxHeartbeats 8000000
set_option maxRecDepth 10000
theorem MJ {k:Int}{S M:Nat}(hS:S<=1000){x:Sv}(h:x.of k S M):∃ s l1 l2 c b u p,x.w.d=wD s l1 l2 c b u p [] /\
  Ca E1 85 [.d (.a [.v (.bool s),.s 1 l1,.s 1 l2])] (.d (.a [.v (.bool s),.s 1 l1,.s 1 l2]),none)/\Ca E1 86 [.d (.s 6 p)] (.d (.s 6 p),none):=by
 have t0:=Ca.iP (jT 0 (by have:=nL;omega));rw[uH]at t0;obtain⟨_,p0,rfl⟩:=uI (PV.nil S) hS;cases x with
 | q x =>
  have:=h.2;exact⟨_,_,_,_,_,_,_,rfl,Ca.iP (jT x (by omega)),p0⟩
 | c i n=>exact⟨_,_,_,_,_,_,_,rfl,t0,p0⟩
 | s u=>exact⟨_,_,_,_,_,_,_,rfl,t0,p0⟩
 | p l =>
  obtain⟨_,t1,rfl⟩:=uI h.2.1 hS;exact⟨_,_,_,_,_,_,_,YB l,t0,t1⟩
theorem fB (kk:Int)(ps:List Int)(i:Nat)(j:Int)(hj:j=i)(a:Int)(h:ps[i]?=some a):Ca E1 56 [.d (bG kk ps),.d (.v (.int .i64 j))] (.d (bG a []),none):=by
 subst hj;have e1:(LK .i64 ps)[i]?=some (.v (.int .i64 a)):=by simp[LK,h]
 have hl:i<(LK .i64 ps).length:=(aT e1)
 have h0:(0:Int)<=(i:Int):=by omega
 refine Ca.bO (n:=60) ?_;rw[aA rfl (k56:E1.fn _=_) rfl];have e2:=idx e1;have e0:LK .i64 []=[]:=rfl;unfold bG;rw[e0];generalize LK .i64 ps=l1 at*;simp -implicitDefEqProofs[f56,e1,e2,hl,h0]
theorem wr1:ak .i64 1=1:=wrap_i64 (by omega)
theorem wr2:ak .i64 2=2:=wrap_i64 (by omega)
theorem wr3:ak .i64 3=3:=wrap_i64 (by omega)
theorem fC {k:Int}(hk:single k=true):aQ k []=true/\k≠6:=by
 have h6:k≠6:=by
  rintro rfl;exact absurd hk (by decide)
 exact⟨by unfold aQ;rw[if_pos h6,hk];rfl,h6⟩
theorem uL {kk:Int}{ps:List Int}{S M:Nat}{xs:List Sv}(hv:aQ kk ps=true)(h:oU S M (lW kk ps) xs) :
  (single kk=true/\ps=[]/\∃ x,xs=[x]/\x.of kk S M) \/
  (kk=6/\∃ a b x y,ps=[a,b]/\xs=[x,y]/\single a=true/\single b=true/\x.of a S M/\y.of b S M) \/
  (kk=6/\∃ a b c x y z,ps=[a,b,c]/\xs=[x,y,z]/\single a=true/\single b=true/\single c=true/\x.of a S M/\y.of b S M/\z.of c S M):=by
 have hs:=jC hv
 by_cases h6:kk=6
 ·subst h6;obtain⟨l3,l2,_⟩:=YG hv;unfold lW at*;rw[if_pos rfl]at h hs;have hl:=h.1
  match ps,xs,l3,l2,hl with
  | [a,b],[x,y],_,_,_=>exact .inr (.inl ⟨rfl,a,b,x,y,rfl,rfl,hs a (by simp),hs b (by simp),h.2 0 a x rfl rfl,h.2 1 b y rfl rfl⟩)
  | [a,b,c],[x,y,z],_,_,_=>exact .inr (.inr ⟨rfl,a,b,c,x,y,z,rfl,rfl,hs a (by simp),hs b (by simp),hs c (by simp),h.2 0 a x rfl rfl,h.2 1 b y rfl rfl,h.2 2 c z rfl rfl⟩)
 ·obtain⟨rfl,hk⟩:=qZ hv h6;unfold lW at h;rw[if_neg h6]at h;obtain⟨x,rfl,hx⟩:=pW h;exact .inl ⟨hk,rfl,x,rfl,hx⟩
theorem mk_one {k:Int}(hk:single k=true)(x:Sv):h_ k [x]=x.w:=if_neg (fC hk).2
theorem KI {k:Int}(hk:single k=true){S M:Nat}{x:Sv}(h:x.of k S M):oU S M (lW k []) [x]:=by
 unfold lW;rw[if_neg (fC hk).2];exact⟨rfl,fun i k' x' h1 h2=>by
  match i with
  | 0=>cases h1;cases h2;exact h
  | i+1=>cases h1⟩
theorem pX {k:Int}(hk:single k=true){S M:Nat}(hS1:1<=S)(hS:S<=1000){x:Sv}(h:x.of k S M):Ca E1 53 [.d (bG k []),.d x.w.d] (.d x.w.d,none):=by
 have hc:=Ca.iP (qR k [] x.w (by simp) (QW h hS));have hm:=Ai (fC hk).1 (KI hk h);rw[mk_one hk]at hm;rw[hm]at hc;obtain⟨s,l1,l2,c,b,u,p,e,t1,t2⟩:=MJ hS h;rw[e]at hc ⊢;obtain⟨K,hK,a0,a1,a2⟩:=(hc.j (t1.j t2.any)).at 0;clear hc t1 t2 e h hm hK;refine Ca.bO (n:=K+200) ?_;rw[aA rfl (k53:E1.fn _=_) rfl];unfold wD bG at*;generalize LK .i64 []=l0 at*;simp -implicitDefEqProofs[aG,f53,a0,a1,a2]
theorem nP (xs:List Sv):(gu (xs.map Sv.w)).d=wD false [] [] 0 false 0 [] (xs.map fun x=>x.w.d):=by
 show D.a [.v (.bool false),.s 1 [],.s 1 [],.v (.int .i64 0),.v (.bool false),.v (.int .u64 0),.s 6 [],.s 8 (W.ds (xs.map Sv.w))]=_;rw[W.fA,List.map_map];rfl
theorem Aj {ps:List Int}{S M:Nat}{xs:List Sv}(hv:aQ 6 ps=true)(hS1:1<=S)(hS:S<=1000)(h:oU S M ps xs) :
  Ca E1 29 [.d (bG 6 ps),.d (wD false [] [] 0 false 0 [] (xs.map fun x=>x.w.d))] (.d (.v (.bool true)),none)/\Ca E1 85 [.d (.a [.v (.bool false),.s 1 [],.s 1 []])] (.d (.a [.v (.bool false),.s 1 [],.s 1 []]),none)/\Ca E1 86 [.d (.s 6 [])] (.d (.s 6 []),none):=by
 have hc:=Ca.iP (qR 6 ps (gu (xs.map Sv.w)) (Q4 hv) (KG hS (YG hv).1 h));rw[Ae hv h,nP]at hc;have t0:=Ca.iP (jT 0 (by have:=nL;omega));rw[uH]at t0;obtain⟨_,p0,rfl⟩:=uI (PV.nil S) hS;exact⟨hc,t0,p0⟩
theorem Eg {kk:Int}{ps:List Int}{S M:Nat}{xs:List Sv}(hv:aQ kk ps=true)(hS1:1<=S)(hS:S<=1000)(h:oU S M (lW kk ps) xs):Ca E1 53 [.d (bG kk ps),.d (h_ kk xs).d] (.d (h_ kk xs).d,none):=by
 rcases uL hv h with ⟨hk,rfl,x,rfl,hx⟩|⟨rfl,a,b,x,y,rfl,rfl,ha,hb,hx,hy⟩|⟨rfl,a,b,c,x,y,z,rfl,rfl,ha,hb,hc,hx,hy,hz⟩
 ·rw[mk_one hk];exact pX hk hS1 hS hx
 ·obtain⟨f1,f2,f3⟩:=Aj hv hS1 hS h;obtain⟨K,hK,a0,a1,a2,b0,b1,p0,p1⟩:=((f1).j ((f2).j ((f3).j ((pX ha hS1 hS hx).j ((pX hb hS1 hS hy).j ((fB 6 [a,b] 0 0 rfl a rfl).j ((fB 6 [a,b] 1 1 rfl b rfl).any))))))).at 0;have e0:∀ l,h_ 6 l=gu (l.map Sv.w):=fun _=>rfl
  rw[e0,nP];simp only[List.map_cons,List.map_nil]at*;obtain⟨xs,x1,x2,xc,xb,xu,xp,xq,ex⟩:=x.w.aW;obtain⟨ys,y1,y2,yc,yb,yu,yp,yq,ey⟩:=y.w.aW;simp only[ex,ey]at*;clear hK f1 f2 f3 e0 h hv hx hy ex ey;refine Ca.bO (n:=K+500) ?_;rw[aA rfl (k53:E1.fn _=_) rfl];unfold wD bG at*;generalize LK .i64 []=l0 at*;simp only[show LK .i64 [a,b]=[.v (.int .i64 a),.v (.int .i64 b)] from rfl]at*;simp (maxSteps:=500000) -implicitDefEqProofs[aG,f53,a0,a1,a2,b0,b1,p0,p1,most,wr1,wr2,wr3,ae.view]
 ·obtain⟨f1,f2,f3⟩:=Aj hv hS1 hS h;obtain⟨K,hK,a0,a1,a2,b0,b1,b2,p0,p1,p2⟩:=((f1).j ((f2).j ((f3).j ((pX ha hS1 hS hx).j ((pX hb hS1 hS hy).j ((pX hc hS1 hS hz).j ((fB 6 [a,b,c] 0 0 rfl a rfl).j ((fB 6 [a,b,c] 1 1 rfl b rfl).j ((fB 6 [a,b,c] 2 2 rfl c rfl).any))))))))).at 0;have e0:∀ l,h_ 6 l=gu (l.map Sv.w):=fun _=>rfl
  rw[e0,nP];simp only[List.map_cons,List.map_nil]at*;obtain⟨xs,x1,x2,xc,xb,xu,xp,xq,ex⟩:=x.w.aW;obtain⟨ys,y1,y2,yc,yb,yu,yp,yq,ey⟩:=y.w.aW;obtain⟨zs,z1,z2,zc,zb,zu,zp,zq,ez⟩:=z.w.aW;simp only[ex,ey,ez]at*;clear hK f1 f2 f3 e0 h hv hx hy hz ex ey ez;refine Ca.bO (n:=K+500) ?_;rw[aA rfl (k53:E1.fn _=_) rfl];unfold wD bG at*;generalize LK .i64 []=l0 at*;simp only[show LK .i64 [a,b,c]=[.v (.int .i64 a),.v (.int .i64 b),.v (.int .i64 c)] from rfl]at*;simp (maxSteps:=500000) -implicitDefEqProofs[aG,f53,a0,a1,a2,b0,b1,b2,p0,p1,p2,most,wr1,wr2,wr3,ae.view]
theorem q_d (x:Rat):∃ s n d,(Sv.q x).w.d=wD s n d 0 false 0 [] []/\qD x=.a [.v (.bool s),.s 1 n,.s 1 d]:=⟨_,_,_,rfl,rfl⟩
theorem KJ {k:Int}(hk:single k=true){S M:Nat}(hS1:1<=S)(hS:S<=1000){x y:Sv}(hx:x.of k S M)(hy:y.of k S M){vw ww:W}(tx:Ca E1 53 [.d (bG k []),.d vw.d] (.d x.w.d,none))(ty:Ca E1 53 [.d (bG k []),.d ww.d] (.d y.w.d,none)) :
  Ca E1 19 [.d (bG k []),.d vw.d,.d ww.d] (.d (dS k x y).w.d,none):=by
 have tv:=Ca.iP (Ca.bO (iK 0 k []));rw[(fC hk).1]at tv;obtain⟨vs,vl1,vl2,vc,vb,vu,vp,vps,ev⟩:=vw.aW;obtain⟨ws,wl1,wl2,wc,wb,wu,wp,wps,ew⟩:=ww.aW;rw[ev]at tx ⊢;rw[ew]at ty ⊢;clear ev ew;rcases bL hk with rfl|rfl|rfl|rfl|rfl
 ·obtain⟨a,rfl,ha⟩:=of1 hx;obtain⟨b,rfl,hb⟩:=of1 hy;obtain⟨K,hK,a0,a1,a2,a3⟩:=((tv).j ((tx).j ((ty).j ((Ca.iP (yD a b (by omega) (by omega))).any)))).at 0;obtain⟨s1,n1,d1,e1,g1⟩:=q_d a;obtain⟨s2,n2,d2,e2,g2⟩:=q_d b;rw[pl1];obtain⟨s3,n3,d3,e3,g3⟩:=q_d (a+b);rw[g1,g2,g3]at a3;rw[e1]at a1;rw[e2]at a2;rw[e3];clear hK tv tx ty;refine Ca.bO (n:=K+300) ?_;rw[aA rfl (k19:E1.fn _=_) rfl]
  (try unfold wD at*)
  unfold bG at*;generalize LK .i64 []=l0 at*;simp -implicitDefEqProofs[aG,f19,a0,a1,a2,a3]
 ·obtain⟨i,n,rfl,hn0,hn1,hin⟩:=of2 hx;obtain⟨j,m,rfl,hm0,hm1,hjm⟩:=of2 hy;obtain⟨K,hK,a0,a1,a2⟩:=((tv).j ((tx).j ((ty).any))).at 0;rw[pl2];have hc1:∀ n,(Sv.c i n).w.d=wD false [] [] n i 0 [] []:=fun n=>rfl
  have hc2:∀ n,(Sv.c j n).w.d=wD false [] [] n j 0 [] []:=fun n=>rfl
  unfold uJ;rw[hc1]at a1;rw[hc2]at a2
  by_cases h:m<n<;>cases i<;>cases j<;>(try obtain rfl:=hin rfl)<;>(try obtain rfl:=hjm rfl)<;>(try exact absurd h (by omega))<;>simp only[h,Bool.not_true,Bool.not_false,Bool.false_and,Bool.true_and,Bool.and_true,Bool.or_true,Bool.true_or,Bool.false_or,decide_true,decide_false,if_true,if_false,Bool.false_eq_true,hc1,hc2] <;>
  (clear hK tv tx ty;refine Ca.bO (n:=K+300) ?_;rw[aA rfl (k19:E1.fn _=_) rfl];(try rw[hc1]);(try rw[hc2]);unfold wD bG at*;generalize LK .i64 []=l0 at*;simp -implicitDefEqProofs[f19,a0,a1,a2,h])
 ·obtain⟨a,rfl,_,_,ha⟩:=of3 hx;obtain⟨b,rfl,_,_,hb⟩:=of3 hy;obtain⟨K,hK,a0,a1,a2,a3⟩:=((tv).j ((tx).j ((ty).j ((Ca.iP (FT a b (by omega) (by omega))).any)))).at 0;obtain⟨s1,n1,d1,e1,g1⟩:=q_d a;obtain⟨s2,n2,d2,e2,g2⟩:=q_d b;have ep:=pl3 a b
  by_cases hab:a<b
  ·rw[ep,if_pos hab];rw[decide_eq_true hab,g1,g2]at a3;simp only[e1,e2]at a1 a2 ⊢;clear hK tv tx ty;refine Ca.bO (n:=K+300) ?_;rw[aA rfl (k19:E1.fn _=_) rfl]
   (try unfold wD at*)
   unfold bG at*;generalize LK .i64 []=l0 at*;simp -implicitDefEqProofs[aG,f19,a0,a1,a2,a3]
  ·rw[ep,if_neg hab];rw[decide_eq_false hab,g1,g2]at a3;simp only[e1,e2]at a1 a2 ⊢;clear hK tv tx ty;refine Ca.bO (n:=K+300) ?_;rw[aA rfl (k19:E1.fn _=_) rfl]
   (try unfold wD at*)
   unfold bG at*;generalize LK .i64 []=l0 at*;simp -implicitDefEqProofs[aG,f19,a0,a1,a2,a3]
 ·obtain⟨u,rfl,hu⟩:=of4 hx;obtain⟨v,rfl,hv⟩:=of4 hy;obtain⟨K,hK,a0,a1,a2⟩:=((tv).j ((tx).j ((ty).any))).at 0;rw[pl4];have hc1:∀ u,(Sv.s u).w.d=wD false [] [] 0 false u [] []:=fun u=>rfl
  rw[hc1]at a1;rw[hc1]at a2;rw[hc1];clear hK tv tx ty;refine Ca.bO (n:=K+300) ?_;rw[aA rfl (k19:E1.fn _=_) rfl]
  (try unfold wD at*)
  unfold bG at*;generalize LK .i64 []=l0 at*;simp -implicitDefEqProofs[aG,f19,a0,a1,a2]
 ·obtain⟨a,rfl,ha,la⟩:=of5 hx;obtain⟨b,rfl,hb,lb⟩:=of5 hy;obtain⟨K,hK,a0,a1,a2,a3⟩:=((tv).j ((tx).j ((ty).j ((QD hS1 hS ha hb).any)))).at 0;rw[pl5];simp only[YB]at a1 a2 ⊢;generalize jB a b=c at*;unfold bF at*;generalize (a.map fun p=>qC p.1 p.2)=x1,(b.map fun p=>qC p.1 p.2)=x2,(c.map fun p=>qC p.1 p.2)=x3 at*;clear hK tv tx ty;refine Ca.bO (n:=K+300) ?_;rw[aA rfl (k19:E1.fn _=_) rfl]
  (try unfold wD at*)
  unfold bG at*;generalize LK .i64 []=l0 at*;simp -implicitDefEqProofs[aG,f19,a0,a1,a2,a3]
theorem uM {k:Int}(hk:single k=true){S M:Nat}(hS1:1<=S)(hS:S<=1000){x y:Sv}(hx:x.of k S M)(hy:y.of k S M) :
  Ca E1 19 [.d (bG k []),.d x.w.d,.d y.w.d] (.d (dS k x y).w.d,none):=KJ hk hS1 hS hx hy (pX hk hS1 hS hx) (pX hk hS1 hS hy)
theorem Q5 {kk:Int}{ps:List Int}{S M:Nat}{xs ys:List Sv}(hv:aQ kk ps=true)(hS1:1<=S)(hS:S<=1000)(hx:oU S M (lW kk ps) xs)(hy:oU S M (lW kk ps) ys){vw ww:W}(tx:Ca E1 53 [.d (bG kk ps),.d vw.d] (.d (h_ kk xs).d,none))(ty:Ca E1 53 [.d (bG kk ps),.d ww.d] (.d (h_ kk ys).d,none)) :
  Ca E1 19 [.d (bG kk ps),.d vw.d,.d ww.d] (.d (h_ kk (kE (lW kk ps) xs ys)).d,none):=by
 have tv:=Ca.iP (Ca.bO (iK 0 kk ps));rw[hv]at tv;rcases uL hv hx with ⟨hk,rfl,x,rfl,h1⟩|⟨rfl,a,b,x1,x2,rfl,rfl,ha,hb,h1,h2⟩|⟨rfl,a,b,c,x1,x2,x3,rfl,rfl,ha,hb,hc,h1,h2,h3⟩
 ·have h6:=(fC hk).2;rcases uL hv hy with ⟨_,_,y,rfl,g1⟩|⟨h,_⟩|⟨h,_⟩
  ·unfold lW;rw[if_neg h6];rw[mk_one hk]at tx ty;show Ca E1 19 _ (.d (h_ kk [dS kk x y]).d,none);rw[mk_one hk];exact KJ hk hS1 hS h1 g1 tx ty
  ·exact absurd h h6
  ·exact absurd h h6
 ·obtain⟨y1,y2,rfl,g1,g2⟩:∃ y1 y2,ys=[y1,y2]/\y1.of a S M/\y2.of b S M:=by
   have hl:=hy.1
   match ys,hl with
   | [y1,y2],_=>exact⟨y1,y2,rfl,hy.2 0 _ _ rfl rfl,hy.2 1 _ _ rfl rfl⟩
  obtain⟨K,hK,a0,a1,a2,b0,b1,p0,p1⟩:=((tv).j ((tx).j ((ty).j ((uM ha hS1 hS h1 g1).j ((uM hb hS1 hS h2 g2).j ((fB 6 [a,b] 0 0 rfl a rfl).j ((fB 6 [a,b] 1 1 rfl b rfl).any))))))).at 0;have e0:∀ l,h_ 6 l=gu (l.map Sv.w):=fun _=>rfl
  have e1:kE (lW 6 [a,b]) [x1,x2] [y1,y2]=[dS a x1 y1,dS b x2 y2]:=rfl;rw[e1,e0,nP];rw[e0,nP]at a1 a2;obtain⟨vs,vl1,vl2,vc,vb,vu,vp,vps,ev⟩:=vw.aW;obtain⟨ws,wl1,wl2,wc,wb,wu,wp,wps,ew⟩:=ww.aW;rw[ev]at a1 ⊢;rw[ew]at a2 ⊢;clear tx ty ev ew;simp only[List.map_cons,List.map_nil]at*;generalize dS a x1 y1=z1,dS b x2 y2=z2 at*;obtain⟨xs1,xm1,xn1,xc1,xb1,xu1,xp1,xq1,ex1⟩:=x1.w.aW;obtain⟨xs2,xm2,xn2,xc2,xb2,xu2,xp2,xq2,KL⟩:=x2.w.aW;obtain⟨ys1,ym1,yn1,yc1,yb1,yu1,yp1,yq1,ey1⟩:=y1.w.aW;obtain⟨ys2,ym2,yn2,yc2,yb2,yu2,yp2,yq2,ey2⟩:=y2.w.aW;obtain⟨zs1,zm1,zn1,zc1,zb1,zu1,zp1,zq1,ez1⟩:=z1.w.aW;obtain⟨zs2,zm2,zn2,zc2,zb2,zu2,zp2,zq2,Q6⟩:=z2.w.aW;simp only[ex1,KL,ey1,ey2,ez1,Q6]at*;clear hK tv e0 e1 hx hy hv h1 g1 h2 g2 ex1 KL ey1 ey2 ez1 Q6;refine Ca.bO (n:=K+500) ?_;rw[aA rfl (k19:E1.fn _=_) rfl];unfold wD bG at*;generalize LK .i64 []=l0 at*;simp only[show LK .i64 [a,b]=[.v (.int .i64 a),.v (.int .i64 b)] from rfl]at*;simp (maxSteps:=500000) -implicitDefEqProofs[aG,f19,a0,a1,a2,b0,b1,p0,p1,most,wr1,wr2,wr3,ae.view]
 ·obtain⟨y1,y2,y3,rfl,g1,g2,g3⟩:∃ y1 y2 y3,ys=[y1,y2,y3]/\y1.of a S M/\y2.of b S M/\y3.of c S M:=by
   have hl:=hy.1
   match ys,hl with
   | [y1,y2,y3],_=>exact⟨y1,y2,y3,rfl,hy.2 0 _ _ rfl rfl,hy.2 1 _ _ rfl rfl,hy.2 2 _ _ rfl rfl⟩
  obtain⟨K,hK,a0,a1,a2,b0,b1,b2,p0,p1,p2⟩:=((tv).j ((tx).j ((ty).j ((uM ha hS1 hS h1 g1).j ((uM hb hS1 hS h2 g2).j ((uM hc hS1 hS h3 g3).j ((fB 6 [a,b,c] 0 0 rfl a rfl).j ((fB 6 [a,b,c] 1 1 rfl b rfl).j ((fB 6 [a,b,c] 2 2 rfl c rfl).any))))))))).at 0;have e0:∀ l,h_ 6 l=gu (l.map Sv.w):=fun _=>rfl
  have e1:kE (lW 6 [a,b,c]) [x1,x2,x3] [y1,y2,y3]=[dS a x1 y1,dS b x2 y2,dS c x3 y3]:=rfl;rw[e1,e0,nP];rw[e0,nP]at a1 a2;obtain⟨vs,vl1,vl2,vc,vb,vu,vp,vps,ev⟩:=vw.aW;obtain⟨ws,wl1,wl2,wc,wb,wu,wp,wps,ew⟩:=ww.aW;rw[ev]at a1 ⊢;rw[ew]at a2 ⊢;clear tx ty ev ew;simp only[List.map_cons,List.map_nil]at*;generalize dS a x1 y1=z1,dS b x2 y2=z2,dS c x3 y3=z3 at*;obtain⟨xs1,xm1,xn1,xc1,xb1,xu1,xp1,xq1,ex1⟩:=x1.w.aW;obtain⟨xs2,xm2,xn2,xc2,xb2,xu2,xp2,xq2,KL⟩:=x2.w.aW;obtain⟨xs3,xm3,xn3,xc3,xb3,xu3,xp3,xq3,WR⟩:=x3.w.aW;obtain⟨ys1,ym1,yn1,yc1,yb1,yu1,yp1,yq1,ey1⟩:=y1.w.aW;obtain⟨ys2,ym2,yn2,yc2,yb2,yu2,yp2,yq2,ey2⟩:=y2.w.aW;obtain⟨ys3,ym3,yn3,yc3,yb3,yu3,yp3,yq3,ey3⟩:=y3.w.aW;obtain⟨zs1,zm1,zn1,zc1,zb1,zu1,zp1,zq1,ez1⟩:=z1.w.aW;obtain⟨zs2,zm2,zn2,zc2,zb2,zu2,zp2,zq2,Q6⟩:=z2.w.aW;obtain⟨zs3,zm3,zn3,zc3,zb3,zu3,zp3,zq3,ez3⟩:=z3.w.aW;simp only[ex1,KL,WR,ey1,ey2,ey3,ez1,Q6,ez3]at*;clear hK tv e0 e1 hx hy hv h1 g1 h2 g2 h3 g3 ex1 KL WR ey1 ey2 ey3 ez1 Q6 ez3;refine Ca.bO (n:=K+500) ?_;rw[aA rfl (k19:E1.fn _=_) rfl];unfold wD bG at*;generalize LK .i64 []=l0 at*;simp only[show LK .i64 [a,b,c]=[.v (.int .i64 a),.v (.int .i64 b),.v (.int .i64 c)] from rfl]at*;simp (maxSteps:=500000) -implicitDefEqProofs[aG,f19,a0,a1,a2,b0,b1,b2,p0,p1,p2,most,wr1,wr2,wr3,ae.view]
theorem Q7 {kk:Int}{ps:List Int}{S M:Nat}{xs ys:List Sv}(hv:aQ kk ps=true)(hS1:1<=S)(hS:S<=1000)(hx:oU S M (lW kk ps) xs)(hy:oU S M (lW kk ps) ys) :
  Ca E1 19 [.d (bG kk ps),.d (h_ kk xs).d,.d (h_ kk ys).d] (.d (h_ kk (kE (lW kk ps) xs ys)).d,none):=Q5 hv hS1 hS hx hy (Eg hv hS1 hS hx) (Eg hv hS1 hS hy)
theorem q8 {k:Int}(hk:single k=true):Ca E1 35 [.d (bG k [])] (.d (gD k).w.d,none):=by
 have tv:=Ca.iP (Ca.bO (iK 0 k []));rw[(fC hk).1]at tv;have e2:∀ b,W.d (.mk false [] [] 0 b 0 [] [])=wD false [] [] 0 b 0 [] []:=fun _=>rfl
 have eq0:(Sv.q 0).w.d=wD false [] [] 0 false 0 [] []:=by
  have h:=uH;obtain⟨s,n,d,e1,g1⟩:=q_d 0;rw[e1];rw[g1]at h;simp only[D.a.injEq,List.cons.injEq,D.v.injEq,Value.bool.injEq,D.s.injEq,true_and,and_true]at h;obtain⟨rfl,rfl,rfl⟩:=h;rfl
 have e:(gD k).w.d=wD false [] [] 0 (k==2) 0 [] []:=by
  rcases bL hk with rfl|rfl|rfl|rfl|rfl
  ·exact eq0
  ·exact e2 _
  ·exact eq0
  ·exact e2 _
  ·exact e2 _
 rw[e];obtain⟨m0,a0⟩:=(tv).any;clear e e2 eq0 tv;refine Ca.bO (n:=m0+300) ?_;replace a0:=a0 m0 (by omega);rw[aA rfl (k35:E1.fn _=_) rfl];unfold wD bG at*;simp only[show LK .i64 []=[] from rfl]at*;rcases bL hk with rfl|rfl|rfl|rfl|rfl<;>simp -implicitDefEqProofs[aG,f35,a0]
theorem Vh {kk:Int}{ps:List Int}(hv:aQ kk ps=true):Ca E1 35 [.d (bG kk ps)] (.d (h_ kk ((lW kk ps).map gD)).d,none):=by
 have h:oU 1 1 (lW kk ps) ((lW kk ps).map gD):=wF (by omega) (jC hv);have tv:=Ca.iP (Ca.bO (iK 0 kk ps));rw[hv]at tv;have e0:∀ l,h_ 6 l=gu (l.map Sv.w):=fun _=>rfl
 rcases uL hv h with ⟨hk,rfl,x,hxs,hx⟩|⟨rfl,a,b,x,y,rfl,hxs,ha,hb,hx,hy⟩|⟨rfl,a,b,c,x,y,z,rfl,hxs,ha,hb,hc,hx,hy,hz⟩
 ·rw[show lW kk []=[kk] from if_neg (fC hk).2,List.map_cons,List.map_nil,mk_one hk];exact q8 hk
 ·clear h hxs;rw[show lW 6 [a,b]=[a,b] from rfl,e0,nP];simp only[List.map_cons,List.map_nil];obtain⟨K,hK,a0,b0,p0,b1,p1⟩:=(tv.j ((q8 ha).j ((fB 6 [a,b] 0 0 rfl a rfl).j ((q8 hb).j ((fB 6 [a,b] 1 1 rfl b rfl).any))))).at 0;obtain⟨s0,l0,r0,c0,i0,u0,o0,g0,e0x⟩:=(gD a).w.aW;obtain⟨s1,l1,r1,c1,i1,u1,o1,g1,e1x⟩:=(gD b).w.aW;simp only[e0x,e1x]at*;clear hK tv e0 hv hx hy e0x e1x;refine Ca.bO (n:=K+500) ?_;rw[aA rfl (k35:E1.fn _=_) rfl];unfold wD bG at*;generalize LK .i64 []=l0 at*;simp only[show LK .i64 [a,b]=[.v (.int .i64 a),.v (.int .i64 b)] from rfl]at*;simp (maxSteps:=500000) -implicitDefEqProofs[aG,f35,a0,b0,p0,b1,p1,most,wr1,wr2,wr3,ae.view]
 ·clear h hxs;rw[show lW 6 [a,b,c]=[a,b,c] from rfl,e0,nP];simp only[List.map_cons,List.map_nil];obtain⟨K,hK,a0,b0,p0,b1,p1,b2,p2⟩:=(tv.j ((q8 ha).j ((fB 6 [a,b,c] 0 0 rfl a rfl).j ((q8 hb).j ((fB 6 [a,b,c] 1 1 rfl b rfl).j ((q8 hc).j ((fB 6 [a,b,c] 2 2 rfl c rfl).any))))))).at 0;obtain⟨s0,l0,r0,c0,i0,u0,o0,g0,e0x⟩:=(gD a).w.aW;obtain⟨s1,l1,r1,c1,i1,u1,o1,g1,e1x⟩:=(gD b).w.aW;obtain⟨s2,l2,r2,c2,i2,u2,o2,g2,e2x⟩:=(gD c).w.aW;simp only[e0x,e1x,e2x]at*;clear hK tv e0 hv hx hy hz e0x e1x e2x;refine Ca.bO (n:=K+500) ?_;rw[aA rfl (k35:E1.fn _=_) rfl];unfold wD bG at*;generalize LK .i64 []=l0 at*;simp only[show LK .i64 [a,b,c]=[.v (.int .i64 a),.v (.int .i64 b),.v (.int .i64 c)] from rfl]at*;simp (maxSteps:=500000) -implicitDefEqProofs[aG,f35,a0,b0,p0,b1,p1,b2,p2,most,wr1,wr2,wr3,ae.view]
theorem Gs {kk:Int}{ps:List Int}(hv:aQ kk ps=true){w:W}(ht:w.nJ)(hl:w.bI=true)(hc:bM kk ps w=true):∃ xs,oU 3 8 (lW kk ps) xs/\w=h_ kk xs:=by
 have hs:=jC hv;unfold bM at hc;rw[hv]at hc
 by_cases h6:kk=6
 ·subst h6;simp only[Bool.true_and,ne_eq,not_true_eq_false,if_false,Bool.and_eq_true,beq_iff_eq]at hc;obtain⟨⟨h1,h2⟩,h4⟩:=hc;obtain⟨xs,hxs,hof⟩:=Cw hs h1 (Ji ht hl) h4;refine⟨xs,hof,?_⟩;rw[MG h2,hxs];rfl
 ·obtain⟨rfl,hk⟩:=qZ hv h6;simp only[Bool.true_and,ne_eq,h6,not_false_eq_true,if_true]at hc;obtain⟨h1,h2⟩:=Ad w ht hl;obtain⟨x,rfl,hx⟩:=QU hk (by omega) h1 h2 hc;exact⟨[x],KI hk hx,(mk_one hk x).symm⟩
end Fi.S
